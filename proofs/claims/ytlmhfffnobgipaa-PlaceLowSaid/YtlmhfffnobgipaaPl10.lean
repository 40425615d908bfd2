/- What functions compute. -/
import Derived.Test.YtlmhfffnobgipaaPl5
namespace Go.V.P
open Go.RowKit Go.V Go.Proofs
set_option linter.unusedVariables false
set_option maxRecDepth 100000
section
variable {α β : Type} (g_ : Graph) (y2849 : Bool) (y2850 : Graph) (y2851 : ((List I4) × Int)) (y2852 : ((List Int) × Int)) (y2853 : ((List I2) × Int)) (y2854 : (Int × Int)) (s2984 : (Bool × Int)) (s3015 : (Bool × Int)) (y3017 : Bool) (y3018 : (Bool × Int)) (y3019 : Int) (y3023 : (Bool × Int)) (k : St → Option α) (q : Kont α)
noncomputable abbrev C74 := codeOf E.P 7
noncomputable abbrev P74 := @preK α E 7 cp67 ce3
noncomputable abbrev R74 := @runCode α E 7 cp67 ce3
theorem law17_PlaceLow_r1 : P74 2 C74 ⟨[(0, rA tsGraph g_)], [], [], 156⟩ k = Option.bind law17_shown fun y2849 : Bool => k ⟨[(1, rF 0), (3, rb y2849)], [(tsGraph.leaves g_)], [], 156⟩ := by kernel_rfl
theorem law17_PlaceLow_r2 : P74 1 C74.r.r ⟨[(1, rF 0), (3, rb y2849)], [(tsGraph.leaves g_)], [], 156⟩ k = Option.bind (law17_less g_) fun y2850 : Graph => k ⟨[(1, rF 0), (3, rb y2849)], [(tsGraph.leaves y2850)], [], 156⟩ := by kernel_rfl
abbrev S74_0 : St := ⟨[(1, rF 0), (3, rb y2849), (4, rO tsI4 y2851.1 4), (5, ri y2851.2)], [(tsGraph.leaves y2850)], [], 156⟩
theorem law17_PlaceLow_r3 : P74 1 C74.r.r.r ⟨[(1, rF 0), (3, rb y2849)], [(tsGraph.leaves y2850)], [], 156⟩ k = Option.bind (ref03_Values y2850) fun y2851 : ((List I4) × Int) => k (S74_0 y2849 y2850 y2851) := by kernel_rfl
theorem law17_PlaceLow_f1000005 : P74 1 C74.r.r.r.r.l (S74_0 y2849 y2850 y2851) k = k ⟨[(1, rF 0), (3, rb y2849), (4, rO tsI4 y2851.1 4), (26, rb (y2851.2 != 0))], [(tsGraph.leaves y2850)], [], 156⟩ := by kernel_rfl
abbrev S74_1 : St := ⟨[(1, rF 0), (3, rb y2849), (4, rO tsI4 y2851.1 4)], [(tsGraph.leaves y2850)], [], 156⟩
theorem law17_PlaceLow_fz : P74 1 C74.r.r.r.r.l.r.t (S74_1 y2849 y2850 y2851) k = k ⟨[(2, rb y2849)], [[]], [], 156⟩ := by kernel_rfl
abbrev S74_2 : St := ⟨[(1, rF 0), (3, rb y2849), (4, rO tsI4 y2851.1 4), (6, .one (.ow (.one (.int .i64)) y2852.1 (.v 6))), (7, ri y2852.2)], [(tsGraph.leaves y2850)], [], 156⟩
theorem law17_PlaceLow_r6 : P74 1 C74.r.r.r.r.r (S74_1 y2849 y2850 y2851) k = Option.bind (place_Places y2850) fun y2852 : ((List Int) × Int) => k (S74_2 y2849 y2850 y2851 y2852) := by kernel_rfl
abbrev S74_3 : St := ⟨[(1, rF 0), (3, rb y2849), (4, rO tsI4 y2851.1 4), (6, .one (.ow (.one (.int .i64)) y2852.1 (.v 6))), (7, ri y2852.2), (8, rO tsI2 y2853.1 8), (9, ri y2853.2)], [(tsGraph.leaves y2850)], [], 156⟩
theorem law17_PlaceLow_r7 : P74 1 C74.r.r.r.r.r.r (S74_2 y2849 y2850 y2851 y2852) k = Option.bind (place_Live y2850) fun y2853 : ((List I2) × Int) => k (S74_3 y2849 y2850 y2851 y2852 y2853) := by kernel_rfl
abbrev S74_4 : St := ⟨[(3, rb y2849), (4, rO tsI4 y2851.1 4), (6, .one (.ow (.one (.int .i64)) y2852.1 (.v 6))), (7, ri y2852.2), (8, rO tsI2 y2853.1 8), (9, ri y2853.2), (10, ri y2854.1), (11, ri y2854.2)], [[]], [], 156⟩
theorem law17_PlaceLow_r8 : P74 1 C74.r.r.r.r.r.r.r (S74_3 y2849 y2850 y2851 y2852 y2853) k = Option.bind (place_Total y2850) fun y2854 : (Int × Int) => k (S74_4 y2849 y2851 y2852 y2853 y2854) := by kernel_rfl
def law17_PlaceLow_r9_q (K : Bool → β) : β := (bif (y2852.2 != 0) then (K true) else (bif (y2853.2 != 0) then (K true) else (bif (y2854.2 != 0) then (K true) else (bif ((y2852.1.length : Int) != (y2851.1.length : Int)) then (K true) else (K ((y2853.1.length : Int) != (y2851.1.length : Int)))))))
def law17_PlaceLow_r9_p : Bool := law17_PlaceLow_r9_q y2851 y2852 y2853 y2854 (fun y => y)
theorem law17_PlaceLow_r9_n (K : Bool → β) : law17_PlaceLow_r9_q y2851 y2852 y2853 y2854 K = K (law17_PlaceLow_r9_p y2851 y2852 y2853 y2854) := (bif_k K rfl (bif_k K rfl (bif_k K rfl (bif_k K rfl rfl))))
theorem law17_PlaceLow_r9 : P74 1 C74.r.r.r.r.r.r.r.r.l (S74_4 y2849 y2851 y2852 y2853 y2854) k = k ⟨[(3, rb y2849), (4, rO tsI4 y2851.1 4), (6, .one (.ow (.one (.int .i64)) y2852.1 (.v 6))), (8, rO tsI2 y2853.1 8), (10, ri y2854.1), (66, rb (law17_PlaceLow_r9_p y2851 y2852 y2853 y2854))], [[]], [], 156⟩ := Eq.trans (by kernel_rfl) (law17_PlaceLow_r9_n y2851 y2852 y2853 y2854 (fun y2856 : Bool => k ⟨[(3, rb y2849), (4, rO tsI4 y2851.1 4), (6, .one (.ow (.one (.int .i64)) y2852.1 (.v 6))), (8, rO tsI2 y2853.1 8), (10, ri y2854.1), (66, rb y2856)], [[]], [], 156⟩))
abbrev S74_5 : St := ⟨[(3, rb y2849), (4, rO tsI4 y2851.1 4), (6, .one (.ow (.one (.int .i64)) y2852.1 (.v 6))), (8, rO tsI2 y2853.1 8), (10, ri y2854.1)], [[]], [], 156⟩
abbrev S74_6 : St := ⟨[(2, rb false)], [[]], [], 156⟩
theorem law17_PlaceLow_fzx1 : P74 1 C74.r.r.r.r.r.r.r.r.l.r.t (S74_5 y2849 y2851 y2852 y2853 y2854) k = k S74_6 := by kernel_rfl
abbrev S74_7 : St := ⟨[(3, rb y2849), (4, rO tsI4 y2851.1 4), (6, .one (.ow (.one (.int .i64)) y2852.1 (.v 6))), (8, rO tsI2 y2853.1 8), (10, ri y2854.1), (12, rb false)], [[]], [], 156⟩
theorem law17_PlaceLow_f12 : P74 1 C74.r.r.r.r.r.r.r.r.r (S74_5 y2849 y2851 y2852 y2853 y2854) k = k (S74_7 y2849 y2851 y2852 y2853 y2854) := by kernel_rfl
abbrev S74_8 : St := ⟨[(3, rb y2849), (4, rO tsI4 y2851.1 4), (6, .one (.ow (.one (.int .i64)) y2852.1 (.v 6))), (8, rO tsI2 y2853.1 8), (10, ri y2854.1), (12, rb false), (13, ri 0)], [[]], [], 156⟩
theorem law17_PlaceLow_f13 : P74 1 C74.r.r.r.r.r.r.r.r.r.r.l (S74_7 y2849 y2851 y2852 y2853 y2854) k = k (S74_8 y2849 y2851 y2852 y2853 y2854) := by kernel_rfl
abbrev S74_9 : St := ⟨[(3, rb y2849), (4, rO tsI4 y2851.1 4), (6, .one (.ow (.one (.int .i64)) y2852.1 (.v 6))), (8, rO tsI2 y2853.1 8), (10, ri y2854.1), (12, rb s2984.1), (13, ri s2984.2)], [[]], [], 156⟩
theorem law17_PlaceLow_fzx2 : P74 1 C74.r.r.r.r.r.r.r.r.r.r.l.r.b.b.l (S74_9 y2849 y2851 y2852 y2853 y2854 s2984) k = k ⟨[(3, rb y2849), (4, rO tsI4 y2851.1 4), (6, .one (.ow (.one (.int .i64)) y2852.1 (.v 6))), (8, rO tsI2 y2853.1 8), (10, ri y2854.1), (12, rb s2984.1), (13, ri s2984.2), (70, rb (decide (s2984.2 < (y2851.1.length : Int))))], [[]], [], 156⟩ := by kernel_rfl
def law17_PlaceLow_r15_p : Option Unit := (bif (decide ((0 : Int) ≤ s2984.2)) then (bif (decide (s2984.2 < (y2852.1.length : Int))) then (some ()) else none) else none)
abbrev S74_10 : St := ⟨[(3, rb y2849), (4, rO tsI4 y2851.1 4), (6, .one (.ow (.one (.int .i64)) y2852.1 (.v 6))), (8, rO tsI2 y2853.1 8), (10, ri y2854.1), (12, rb s2984.1), (13, ri s2984.2), (14, rb ((gt y2852.1 s2984.2 (0 : Int)) == 0))], [[]], [], 156⟩
theorem law17_PlaceLow_r15 : P74 1 C74.r.r.r.r.r.r.r.r.r.r.l.r.b.b.r.l.b (S74_9 y2849 y2851 y2852 y2853 y2854 s2984) k = Option.bind (law17_PlaceLow_r15_p y2852 s2984) (fun y3004 : Unit => k (S74_10 y2849 y2851 y2852 y2853 y2854 s2984)) := .trans (by kernel_rfl) (bif_b (bif_b some_b none_b) none_b)
abbrev S74_11 : St := ⟨[(3, rb y2849), (4, rO tsI4 y2851.1 4), (6, .one (.ow (.one (.int .i64)) y2852.1 (.v 6))), (8, rO tsI2 y2853.1 8), (10, ri y2854.1), (12, rb s2984.1), (13, ri s2984.2), (14, rb ((gt y2852.1 s2984.2 (0 : Int)) == 0)), (15, ri 0)], [[]], [], 156⟩
theorem law17_PlaceLow_f17 : P74 1 C74.r.r.r.r.r.r.r.r.r.r.l.r.b.b.r.l.b.r.l (S74_10 y2849 y2851 y2852 y2853 y2854 s2984) k = k (S74_11 y2849 y2851 y2852 y2853 y2854 s2984) := by kernel_rfl
abbrev S74_12 : St := ⟨[(3, rb y2849), (4, rO tsI4 y2851.1 4), (6, .one (.ow (.one (.int .i64)) y2852.1 (.v 6))), (8, rO tsI2 y2853.1 8), (10, ri y2854.1), (12, rb s2984.1), (13, ri s2984.2), (14, rb s3015.1), (15, ri s3015.2)], [[]], [], 156⟩
theorem law17_PlaceLow_fzx3 : P74 1 C74.r.r.r.r.r.r.r.r.r.r.l.r.b.b.r.l.b.r.l.r.b.b.l (S74_12 y2849 y2851 y2852 y2853 y2854 s2984 s3015) k = k ⟨[(3, rb y2849), (4, rO tsI4 y2851.1 4), (6, .one (.ow (.one (.int .i64)) y2852.1 (.v 6))), (8, rO tsI2 y2853.1 8), (10, ri y2854.1), (12, rb s2984.1), (13, ri s2984.2), (14, rb s3015.1), (15, ri s3015.2), (80, rb (decide (s3015.2 < s2984.2)))], [[]], [], 156⟩ := by kernel_rfl
def law17_PlaceLow_r19_p : Option Bool := (bif s3015.1 then (some true) else (bif (decide ((0 : Int) ≤ s3015.2)) then (bif (decide (s3015.2 < (y2852.1.length : Int))) then (bif (decide ((0 : Int) ≤ s3015.2)) then (bif (decide (s3015.2 < (y2851.1.length : Int))) then (bif (decide ((0 : Int) ≤ s2984.2)) then (bif (decide (s2984.2 < (y2852.1.length : Int))) then (bif ((IntKind.wrap .i64 ((gt y2852.1 s3015.2 (0 : Int)) + (ref02_Size ((gt y2851.1 s3015.2 dI4).1, (gt y2851.1 s3015.2 dI4).2.1, (gt y2851.1 s3015.2 dI4).2.2.1)))) == (gt y2852.1 s2984.2 (0 : Int))) then (bif (decide ((0 : Int) ≤ s3015.2)) then (bif (decide (s3015.2 < (y2853.1.length : Int))) then (bif (decide ((0 : Int) ≤ s2984.2)) then (bif (decide (s2984.2 < (y2853.1.length : Int))) then (bif (decide (((gt y2853.1 s3015.2 dI2).2) ≥ ((gt y2853.1 s2984.2 dI2).1))) then (bif (decide ((0 : Int) ≤ s2984.2)) then (bif (decide (s2984.2 < (y2853.1.length : Int))) then (bif (decide ((0 : Int) ≤ s3015.2)) then (bif (decide (s3015.2 < (y2853.1.length : Int))) then (some (decide (((gt y2853.1 s2984.2 dI2).2) ≥ ((gt y2853.1 s3015.2 dI2).1)))) else none) else none) else none) else none) else (some false)) else none) else none) else none) else none) else (some false)) else none) else none) else none) else none) else none) else none))
abbrev S74_13 : St := ⟨[(3, rb y2849), (4, rO tsI4 y2851.1 4), (6, .one (.ow (.one (.int .i64)) y2852.1 (.v 6))), (8, rO tsI2 y2853.1 8), (10, ri y2854.1), (12, rb s2984.1), (13, ri s2984.2), (14, rb y3017), (15, ri s3015.2)], [[]], [], 156⟩
theorem law17_PlaceLow_r19 : R74 C74.r.r.r.r.r.r.r.r.r.r.l.r.b.b.r.l.b.r.l.r.b.b.r.l.b (S74_12 y2849 y2851 y2852 y2853 y2854 s2984 s3015) q = Option.bind (law17_PlaceLow_r19_p y2851 y2852 y2853 s2984 s3015) (fun y3017 : Bool => q .normal (S74_13 y2849 y2851 y2852 y2853 y2854 s2984 s3015 y3017)) := .trans (by kernel_rfl) (bif_b some_b (bif_b (bif_b (bif_b (bif_b (bif_b (bif_b (bif_b (bif_b (bif_b (bif_b (bif_b (bif_b (bif_b (bif_b (bif_b (bif_b some_b none_b) none_b) none_b) none_b) some_b) none_b) none_b) none_b) none_b) some_b) none_b) none_b) none_b) none_b) none_b) none_b))
theorem law17_PlaceLow_r18 : R74 C74.r.r.r.r.r.r.r.r.r.r.l.r.b.b.r.l.b.r.l.r.b.b.r.r (S74_13 y2849 y2851 y2852 y2853 y2854 s2984 s3015 y3017) q = q .normal ⟨[(3, rb y2849), (4, rO tsI4 y2851.1 4), (6, .one (.ow (.one (.int .i64)) y2852.1 (.v 6))), (8, rO tsI2 y2853.1 8), (10, ri y2854.1), (12, rb s2984.1), (13, ri s2984.2), (14, rb y3017), (15, ri (IntKind.wrap .i64 (s3015.2 + 1)))], [[]], [], 156⟩ := by kernel_rfl
def law17_PlaceLow_l17_p : Option ((Bool × Int) ⊕ (Bool × Int)) := (bif (decide (s3015.2 < s2984.2)) then (Option.bind (law17_PlaceLow_r19_p y2851 y2852 y2853 s2984 s3015) (fun y3017 : Bool => (some (Sum.inl (y3017, (IntKind.wrap .i64 (s3015.2 + 1))))))) else (some (Sum.inr s3015)))
abbrev S74_14 : St := ⟨[(3, rb y2849), (4, rO tsI4 y2851.1 4), (6, .one (.ow (.one (.int .i64)) y2852.1 (.v 6))), (8, rO tsI2 y2853.1 8), (10, ri y2854.1), (12, rb s2984.1), (13, ri s2984.2), (14, rb y3018.1), (15, ri y3018.2)], [[]], [], 156⟩
theorem law17_PlaceLow_l17_b : R74 C74.r.r.r.r.r.r.r.r.r.r.l.r.b.b.r.l.b.r.l.r.b.b (S74_12 y2849 y2851 y2852 y2853 y2854 s2984 s3015) (loopKont 1 q) = Option.bind (law17_PlaceLow_l17_p y2851 y2852 y2853 s2984 s3015) (either (fun y : (Bool × Int) => q .normal ⟨[(3, rb y2849), (4, rO tsI4 y2851.1 4), (6, .one (.ow (.one (.int .i64)) y2852.1 (.v 6))), (8, rO tsI2 y2853.1 8), (10, ri y2854.1), (12, rb s2984.1), (13, ri s2984.2), (14, rb y.1), (15, ri y.2)], [[]], [], 156⟩) (fun y3018 : (Bool × Int) => q (.exit 2) (S74_14 y2849 y2851 y2852 y2853 y2854 s2984 y3018))) := by
  refine .trans ?_ (bif_b (bind_b fun y3017 => e2_0) e2_1)
  refine .trans seq_push ?_
  refine (pre1 (law17_PlaceLow_fzx3 y2849 y2851 y2852 y2853 y2854 s2984 s3015 _)).trans ?_
  refine (cond_e (b := (decide (s3015.2 < s2984.2))) (st' := (S74_12 y2849 y2851 y2852 y2853 y2854 s2984 s3015)) ).trans (bif_g ?_ ?_)
  · refine (skip_eq).trans ?_
    refine (seqC_normal (st' := (S74_12 y2849 y2851 y2852 y2853 y2854 s2984 s3015))).trans ?_
    refine .trans seq_push ?_
    refine (block_push (id := 3)).trans ?_
    refine (law17_PlaceLow_r19 y2849 y2851 y2852 y2853 y2854 s2984 s3015 _).trans (bind_g fun y3017 => ?_)
    refine block_normal.trans ?_
    refine (seqC_normal (st' := (S74_13 y2849 y2851 y2852 y2853 y2854 s2984 s3015 y3017))).trans ?_
    refine (law17_PlaceLow_r18 y2849 y2851 y2852 y2853 y2854 s2984 s3015 y3017 _).trans ?_
    kernel_rfl
  · refine ((exit_eq (j := 2))).trans ?_
    refine seqC_exit.trans ?_
    kernel_rfl
theorem law17_PlaceLow_l17 : R74 C74.r.r.r.r.r.r.r.r.r.r.l.r.b.b.r.l.b.r.l.r.b (S74_11 y2849 y2851 y2852 y2853 y2854 s2984) q = Option.bind (iterN (law17_PlaceLow_l17_p y2851 y2852 y2853 s2984) LL (((gt y2852.1 s2984.2 (0 : Int)) == 0), (0 : Int))) (fun y3018 : (Bool × Int) => q (.exit 2) (S74_14 y2849 y2851 y2852 y2853 y2854 s2984 y3018)) :=
  Eq.trans (by kernel_rfl) (loop_iter1 (S := fun s3015 : (Bool × Int) => (S74_12 y2849 y2851 y2852 y2853 y2854 s2984 s3015)) (Y1 := fun y3018 : (Bool × Int) => ((.exit 2), (S74_14 y2849 y2851 y2852 y2853 y2854 s2984 y3018))) (fun s q => law17_PlaceLow_l17_b y2849 y2851 y2852 y2853 y2854 s2984 s q) (fun z => rfl) LL (((gt y2852.1 s2984.2 (0 : Int)) == 0), (0 : Int)))
def law17_PlaceLow_r20_p : Option Int := (bif (decide ((0 : Int) ≤ s2984.2)) then (bif (decide (s2984.2 < (y2852.1.length : Int))) then (bif (decide ((0 : Int) ≤ s2984.2)) then (bif (decide (s2984.2 < (y2851.1.length : Int))) then (some (IntKind.wrap .i64 ((gt y2852.1 s2984.2 (0 : Int)) + (ref02_Size ((gt y2851.1 s2984.2 dI4).1, (gt y2851.1 s2984.2 dI4).2.1, (gt y2851.1 s2984.2 dI4).2.2.1))))) else none) else none) else none) else none)
abbrev S74_15 : St := ⟨[(3, rb y2849), (4, rO tsI4 y2851.1 4), (6, .one (.ow (.one (.int .i64)) y2852.1 (.v 6))), (8, rO tsI2 y2853.1 8), (10, ri y2854.1), (12, rb s2984.1), (13, ri s2984.2), (14, rb y3018.1)], [[]], [], 156⟩
abbrev S74_16 : St := ⟨[(3, rb y2849), (4, rO tsI4 y2851.1 4), (6, .one (.ow (.one (.int .i64)) y2852.1 (.v 6))), (8, rO tsI2 y2853.1 8), (10, ri y2854.1), (12, rb s2984.1), (13, ri s2984.2), (14, rb y3018.1), (16, ri y3019)], [[]], [], 156⟩
theorem law17_PlaceLow_r20 : P74 1 C74.r.r.r.r.r.r.r.r.r.r.l.r.b.b.r.l.b.r.r (S74_15 y2849 y2851 y2852 y2853 y2854 s2984 y3018) k = Option.bind (law17_PlaceLow_r20_p y2851 y2852 s2984) (fun y3019 : Int => k (S74_16 y2849 y2851 y2852 y2853 y2854 s2984 y3018 y3019)) := .trans (by kernel_rfl) (bif_b (bif_b (bif_b (bif_b some_b none_b) none_b) none_b) none_b)
def law17_PlaceLow_r21_q (K : Bool → β) : β := (bif (!y3018.1) then (K true) else (K (decide (y3019 > y2854.1))))
def law17_PlaceLow_r21_p : Bool := law17_PlaceLow_r21_q y2854 y3018 y3019 (fun y => y)
theorem law17_PlaceLow_r21_n (K : Bool → β) : law17_PlaceLow_r21_q y2854 y3018 y3019 K = K (law17_PlaceLow_r21_p y2854 y3018 y3019) := (bif_k K rfl rfl)
theorem law17_PlaceLow_r21 : P74 1 C74.r.r.r.r.r.r.r.r.r.r.l.r.b.b.r.l.b.r.r.r.l (S74_16 y2849 y2851 y2852 y2853 y2854 s2984 y3018 y3019) k = k ⟨[(3, rb y2849), (4, rO tsI4 y2851.1 4), (6, .one (.ow (.one (.int .i64)) y2852.1 (.v 6))), (8, rO tsI2 y2853.1 8), (10, ri y2854.1), (12, rb s2984.1), (13, ri s2984.2), (16, ri y3019), (145, rb (law17_PlaceLow_r21_p y2854 y3018 y3019))], [[]], [], 156⟩ := Eq.trans (by kernel_rfl) (law17_PlaceLow_r21_n y2854 y3018 y3019 (fun y3021 : Bool => k ⟨[(3, rb y2849), (4, rO tsI4 y2851.1 4), (6, .one (.ow (.one (.int .i64)) y2852.1 (.v 6))), (8, rO tsI2 y2853.1 8), (10, ri y2854.1), (12, rb s2984.1), (13, ri s2984.2), (16, ri y3019), (145, rb y3021)], [[]], [], 156⟩))
abbrev S74_17 : St := ⟨[(3, rb y2849), (4, rO tsI4 y2851.1 4), (6, .one (.ow (.one (.int .i64)) y2852.1 (.v 6))), (8, rO tsI2 y2853.1 8), (10, ri y2854.1), (12, rb s2984.1), (13, ri s2984.2), (16, ri y3019)], [[]], [], 156⟩
theorem law17_PlaceLow_fzx4 : P74 1 C74.r.r.r.r.r.r.r.r.r.r.l.r.b.b.r.l.b.r.r.r.l.r.t (S74_17 y2849 y2851 y2852 y2853 y2854 s2984 y3019) k = k S74_6 := by kernel_rfl
def law17_PlaceLow_r23_q (K : Bool → β) : β := (bif s2984.1 then (K true) else (K (y3019 == y2854.1)))
def law17_PlaceLow_r23_p : Bool := law17_PlaceLow_r23_q y2854 s2984 y3019 (fun y => y)
theorem law17_PlaceLow_r23_n (K : Bool → β) : law17_PlaceLow_r23_q y2854 s2984 y3019 K = K (law17_PlaceLow_r23_p y2854 s2984 y3019) := (bif_k K rfl rfl)
abbrev S74_18 : St := ⟨[(3, rb y2849), (4, rO tsI4 y2851.1 4), (6, .one (.ow (.one (.int .i64)) y2852.1 (.v 6))), (8, rO tsI2 y2853.1 8), (10, ri y2854.1), (12, rb (law17_PlaceLow_r23_p y2854 s2984 y3019)), (13, ri s2984.2)], [[]], [], 156⟩
theorem law17_PlaceLow_r23 : R74 C74.r.r.r.r.r.r.r.r.r.r.l.r.b.b.r.l.b.r.r.r.r (S74_17 y2849 y2851 y2852 y2853 y2854 s2984 y3019) q = q .normal (S74_18 y2849 y2851 y2852 y2853 y2854 s2984 y3019) := Eq.trans (by kernel_rfl) (law17_PlaceLow_r23_n y2854 s2984 y3019 (fun y3022 : Bool => q .normal ⟨[(3, rb y2849), (4, rO tsI4 y2851.1 4), (6, .one (.ow (.one (.int .i64)) y2852.1 (.v 6))), (8, rO tsI2 y2853.1 8), (10, ri y2854.1), (12, rb y3022), (13, ri s2984.2)], [[]], [], 156⟩))
theorem law17_PlaceLow_r14 : R74 C74.r.r.r.r.r.r.r.r.r.r.l.r.b.b.r.r (S74_18 y2849 y2851 y2852 y2853 y2854 s2984 y3019) q = q .normal ⟨[(3, rb y2849), (4, rO tsI4 y2851.1 4), (6, .one (.ow (.one (.int .i64)) y2852.1 (.v 6))), (8, rO tsI2 y2853.1 8), (10, ri y2854.1), (12, rb (law17_PlaceLow_r23_p y2854 s2984 y3019)), (13, ri (IntKind.wrap .i64 (s2984.2 + 1)))], [[]], [], 156⟩ := by kernel_rfl
def law17_PlaceLow_l13_p : Option ((Bool × Int) ⊕ ((Bool × Int) ⊕ Unit)) := (bif (decide (s2984.2 < (y2851.1.length : Int))) then (Option.bind (law17_PlaceLow_r15_p y2852 s2984) (fun y3004 : Unit => (Option.bind (iterN (law17_PlaceLow_l17_p y2851 y2852 y2853 s2984) LL (((gt y2852.1 s2984.2 (0 : Int)) == 0), (0 : Int))) (fun y3018 : (Bool × Int) => (Option.bind (law17_PlaceLow_r20_p y2851 y2852 s2984) (fun y3019 : Int => (bif (law17_PlaceLow_r21_p y2854 y3018 y3019) then (some (Sum.inr (Sum.inr ()))) else (some (Sum.inl ((law17_PlaceLow_r23_p y2854 s2984 y3019), (IntKind.wrap .i64 (s2984.2 + 1)))))))))))) else (some (Sum.inr (Sum.inl s2984))))
abbrev S74_19 : St := ⟨[(3, rb y2849), (4, rO tsI4 y2851.1 4), (6, .one (.ow (.one (.int .i64)) y2852.1 (.v 6))), (8, rO tsI2 y2853.1 8), (10, ri y2854.1), (12, rb y3023.1), (13, ri y3023.2)], [[]], [], 156⟩
theorem law17_PlaceLow_l13_b : R74 C74.r.r.r.r.r.r.r.r.r.r.l.r.b.b (S74_9 y2849 y2851 y2852 y2853 y2854 s2984) (loopKont 1 q) = Option.bind (law17_PlaceLow_l13_p y2851 y2852 y2853 y2854 s2984) (either (fun y : (Bool × Int) => q .normal ⟨[(3, rb y2849), (4, rO tsI4 y2851.1 4), (6, .one (.ow (.one (.int .i64)) y2852.1 (.v 6))), (8, rO tsI2 y2853.1 8), (10, ri y2854.1), (12, rb y.1), (13, ri y.2)], [[]], [], 156⟩) (either (fun y3023 : (Bool × Int) => q (.exit 0) (S74_19 y2849 y2851 y2852 y2853 y2854 y3023)) (fun y3024 : Unit => q .ret S74_6))) := by
  refine .trans ?_ (bif_b (bind_b fun y3004 => (bind_b fun y3018 => (bind_b fun y3019 => (bif_b e3_2 e3_0)))) e3_1)
  refine .trans seq_push ?_
  refine (pre1 (law17_PlaceLow_fzx2 y2849 y2851 y2852 y2853 y2854 s2984 _)).trans ?_
  refine (cond_e (b := (decide (s2984.2 < (y2851.1.length : Int)))) (st' := (S74_9 y2849 y2851 y2852 y2853 y2854 s2984)) ).trans (bif_g ?_ ?_)
  · refine (skip_eq).trans ?_
    refine (seqC_normal (st' := (S74_9 y2849 y2851 y2852 y2853 y2854 s2984))).trans ?_
    refine .trans seq_push ?_
    refine (block_push (id := 1)).trans ?_
    refine (pre1 (law17_PlaceLow_r15 y2849 y2851 y2852 y2853 y2854 s2984 _)).trans (bind_g fun y3004 => ?_)
    refine .trans seq_push ?_
    refine (pre1 (law17_PlaceLow_f17 y2849 y2851 y2852 y2853 y2854 s2984 _)).trans ?_
    refine (block_push (id := 2)).trans ?_
    refine (law17_PlaceLow_l17 y2849 y2851 y2852 y2853 y2854 s2984 _).trans (bind_g fun y3018 => ?_)
    refine block_same.trans ?_
    refine (seqC_normal (st' := (S74_15 y2849 y2851 y2852 y2853 y2854 s2984 y3018))).trans ?_
    refine (pre1 (law17_PlaceLow_r20 y2849 y2851 y2852 y2853 y2854 s2984 y3018 _)).trans (bind_g fun y3019 => ?_)
    refine .trans seq_push ?_
    refine (pre1 (law17_PlaceLow_r21 y2849 y2851 y2852 y2853 y2854 s2984 y3018 y3019 _)).trans ?_
    refine (cond_e (b := (law17_PlaceLow_r21_p y2854 y3018 y3019)) (st' := (S74_17 y2849 y2851 y2852 y2853 y2854 s2984 y3019)) ).trans (bif_g ?_ ?_)
    · refine (pre1 (law17_PlaceLow_fzx4 y2849 y2851 y2852 y2853 y2854 s2984 y3019 _)).trans ?_
      refine (ret_eq).trans ?_
      refine seqC_ret.trans ?_
      refine block_ret.trans ?_
      refine seqC_ret.trans ?_
      kernel_rfl
    · refine (skip_eq).trans ?_
      refine (seqC_normal (st' := (S74_17 y2849 y2851 y2852 y2853 y2854 s2984 y3019))).trans ?_
      refine (law17_PlaceLow_r23 y2849 y2851 y2852 y2853 y2854 s2984 y3019 _).trans ?_
      refine block_normal.trans ?_
      refine (seqC_normal (st' := (S74_18 y2849 y2851 y2852 y2853 y2854 s2984 y3019))).trans ?_
      refine (law17_PlaceLow_r14 y2849 y2851 y2852 y2853 y2854 s2984 y3019 _).trans ?_
      kernel_rfl
  · refine ((exit_eq (j := 0))).trans ?_
    refine seqC_exit.trans ?_
    kernel_rfl
theorem law17_PlaceLow_l13 : R74 C74.r.r.r.r.r.r.r.r.r.r.l.r.b (S74_8 y2849 y2851 y2852 y2853 y2854) q = Option.bind (iterN (law17_PlaceLow_l13_p y2851 y2852 y2853 y2854) LL (false, (0 : Int))) (either (fun y3023 : (Bool × Int) => q (.exit 0) (S74_19 y2849 y2851 y2852 y2853 y2854 y3023)) (fun y3024 : Unit => q .ret S74_6)) :=
  Eq.trans (by kernel_rfl) (loop_iter2 (S := fun s2984 : (Bool × Int) => (S74_9 y2849 y2851 y2852 y2853 y2854 s2984)) (Y1 := fun y3023 : (Bool × Int) => ((.exit 0), (S74_19 y2849 y2851 y2852 y2853 y2854 y3023))) (Y2 := fun y3024 : Unit => (.ret, S74_6)) (fun s q => law17_PlaceLow_l13_b y2849 y2851 y2852 y2853 y2854 s q) (fun z => rfl) (fun z => rfl) LL (false, (0 : Int)))
def law17_PlaceLow_r24_q (K : Bool → β) : β := (bif y2849 then (K y3023.1) else (K false))
def law17_PlaceLow_r24_p : Bool := law17_PlaceLow_r24_q y2849 y3023 (fun y => y)
theorem law17_PlaceLow_r24_n (K : Bool → β) : law17_PlaceLow_r24_q y2849 y3023 K = K (law17_PlaceLow_r24_p y2849 y3023) := (bif_k K rfl rfl)
theorem law17_PlaceLow_r24 : P74 1 C74.r.r.r.r.r.r.r.r.r.r.r ⟨[(3, rb y2849), (12, rb y3023.1)], [[]], [], 156⟩ k = k ⟨[(2, rb (law17_PlaceLow_r24_p y2849 y3023))], [[]], [], 156⟩ := Eq.trans (by kernel_rfl) (law17_PlaceLow_r24_n y2849 y3023 (fun y3025 : Bool => k ⟨[(2, rb y3025)], [[]], [], 156⟩))
/-- quilt/quiltlaw17.PlaceLow -/
def law17_PlaceLow : Option Bool := (Option.bind law17_shown (fun y2849 : Bool => (Option.bind (law17_less g_) (fun y2850 : Graph => (Option.bind (ref03_Values y2850) (fun y2851 : ((List I4) × Int) => (bif (y2851.2 != 0) then (some y2849) else (Option.bind (place_Places y2850) (fun y2852 : ((List Int) × Int) => (Option.bind (place_Live y2850) (fun y2853 : ((List I2) × Int) => (Option.bind (place_Total y2850) (fun y2854 : (Int × Int) => (bif (law17_PlaceLow_r9_p y2851 y2852 y2853 y2854) then (some false) else (Option.bind (iterN (law17_PlaceLow_l13_p y2851 y2852 y2853 y2854) LL (false, (0 : Int))) (either (fun y3023 : (Bool × Int) => (some (law17_PlaceLow_r24_p y2849 y3023))) (fun y3024 : Unit => (some false))))))))))))))))))
theorem law17_PlaceLow_is : stepS E cp67 ce3 7 [rA tsGraph g_] = Option.bind (law17_PlaceLow g_) (fun y : Bool => some (rb y : R)) := by
  refine .trans ?_ (bind_b fun y2849 => (bind_b fun y2850 => (bind_b fun y2851 => (bif_b some_b (bind_b fun y2852 => (bind_b fun y2853 => (bind_b fun y2854 => (bif_b some_b (bind_b (either_b (fun y3023 => some_b) (fun y3024 => some_b)))))))))))
  refine (stepG_is (nt := 156) (regs := [(0, rA tsGraph g_)])).trans ?_
  refine (pre2 (law17_PlaceLow_r1 g_ _)).trans (bind_g fun y2849 => ?_)
  refine (pre1 (law17_PlaceLow_r2 g_ y2849 _)).trans (bind_g fun y2850 => ?_)
  refine (pre1 (law17_PlaceLow_r3 y2849 y2850 _)).trans (bind_g fun y2851 => ?_)
  refine .trans seq_push ?_
  refine (pre1 (law17_PlaceLow_f1000005 y2849 y2850 y2851 _)).trans ?_
  refine (cond_e (b := (y2851.2 != 0)) (st' := (S74_1 y2849 y2850 y2851)) ).trans (bif_g ?_ ?_)
  · refine (pre1 (law17_PlaceLow_fz y2849 y2850 y2851 _)).trans ?_
    refine (ret_eq).trans ?_
    refine seqC_ret.trans ?_
    kernel_rfl
  · refine (skip_eq).trans ?_
    refine (seqC_normal (st' := (S74_1 y2849 y2850 y2851))).trans ?_
    refine (pre1 (law17_PlaceLow_r6 y2849 y2850 y2851 _)).trans (bind_g fun y2852 => ?_)
    refine (pre1 (law17_PlaceLow_r7 y2849 y2850 y2851 y2852 _)).trans (bind_g fun y2853 => ?_)
    refine (pre1 (law17_PlaceLow_r8 y2849 y2850 y2851 y2852 y2853 _)).trans (bind_g fun y2854 => ?_)
    refine .trans seq_push ?_
    refine (pre1 (law17_PlaceLow_r9 y2849 y2851 y2852 y2853 y2854 _)).trans ?_
    refine (cond_e (b := (law17_PlaceLow_r9_p y2851 y2852 y2853 y2854)) (st' := (S74_5 y2849 y2851 y2852 y2853 y2854)) ).trans (bif_g ?_ ?_)
    · refine (pre1 (law17_PlaceLow_fzx1 y2849 y2851 y2852 y2853 y2854 _)).trans ?_
      refine (ret_eq).trans ?_
      refine seqC_ret.trans ?_
      kernel_rfl
    · refine (skip_eq).trans ?_
      refine (seqC_normal (st' := (S74_5 y2849 y2851 y2852 y2853 y2854))).trans ?_
      refine (pre1 (law17_PlaceLow_f12 y2849 y2851 y2852 y2853 y2854 _)).trans ?_
      refine .trans seq_push ?_
      refine (pre1 (law17_PlaceLow_f13 y2849 y2851 y2852 y2853 y2854 _)).trans ?_
      refine (block_push (id := 0)).trans ?_
      refine (law17_PlaceLow_l13 y2849 y2851 y2852 y2853 y2854 _).trans (bind_g (either_g (fun y3023 => ?_) (fun y3024 => ?_)))
      · refine block_same.trans ?_
        refine (seqC_normal (st' := ⟨[(3, rb y2849), (12, rb y3023.1)], [[]], [], 156⟩)).trans ?_
        refine (pre1 (law17_PlaceLow_r24 y2849 y3023 _)).trans ?_
        refine (ret_eq).trans ?_
        kernel_rfl
      · refine block_ret.trans ?_
        refine seqC_ret.trans ?_
        kernel_rfl
noncomputable def cp72 : CallP := withC cp67 7 [(.agg tsGraph)] (.one pB) (fun y : Bool => y) (fun x => law17_PlaceLow x.1)
theorem cp72_ok : PureOK E cp72 := conS eok cp67_ok ce3_ok fun x => Eq.mp (by kernel_rfl) (law17_PlaceLow_is x.1)
theorem law17_PlaceLow_walk (ht : law17_PlaceLow g_ = some true) (w : World) (vs : List Value) (hrd : ∀ γ : Gh, Free γ → rdRs w γ [argR true tsGraph g_] vs) : Calls E.P 7 vs.toArray w fun e w' => e = .returned (.bool true) ∧ Below w.heap.size w w' :=
  walk_true (E := E) (stepS_ok eok cp67_ok ce3_ok) (show stepS E cp67 ce3 7 [rA tsGraph g_] = some (.one (.g .bool true)) from by rw [law17_PlaceLow_is, ht]; rfl) w fun γ hγ => Eq.mp (by kernel_rfl) (hrd γ hγ)
end
end Go.V.P
