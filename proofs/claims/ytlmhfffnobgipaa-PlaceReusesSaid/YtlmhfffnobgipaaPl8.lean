/- What functions compute. -/
import Derived.Test.YtlmhfffnobgipaaPl5
namespace Go.V.P
open Go.RowKit Go.V Go.Proofs
set_option linter.unusedVariables false
set_option maxRecDepth 100000
section
variable {α β : Type} (v_ : I4) (long : Int) (y2667 : Bool) (s2684 : (Int × (List Node))) (y2688 : (List Node)) (y2689 : (Int × (List Node))) (y2691 : ((List Int) × Int)) (y2692 : (Int × Int)) (s2712 : Int) (k : St → Option α) (q : Kont α)
noncomputable abbrev C72 := codeOf E.P 5
noncomputable abbrev P72 := @preK α E 5 cp67 ce3
noncomputable abbrev R72 := @runCode α E 5 cp67 ce3
abbrev S72_0 : St := ⟨[(1, rk .u8 long), (2, rF 0), (5, rb y2667)], [(tsI4.leaves v_)], [], 98⟩
theorem law17_PlaceReuses_r1 : P72 2 C72 ⟨[(0, rA tsI4 v_), (1, rk .u8 long)], [], [], 98⟩ k = Option.bind law17_shown fun y2667 : Bool => k (S72_0 v_ long y2667) := by kernel_rfl
theorem law17_PlaceReuses_f1000003 : P72 1 C72.r.r.l (S72_0 v_ long y2667) k = k ⟨[(1, rk .u8 long), (2, rF 0), (5, rb y2667), (19, rb ((ref02_May (v_.1, v_.2.1, v_.2.2.1)) != 0))], [(tsI4.leaves v_)], [], 98⟩ := by kernel_rfl
theorem law17_PlaceReuses_fz : P72 1 C72.r.r.l.r.t (S72_0 v_ long y2667) k = k ⟨[(4, rb y2667)], [[]], [], 98⟩ := by kernel_rfl
abbrev S72_1 : St := ⟨[(2, rF 0), (5, rb y2667), (6, ri (IntKind.wrap .i64 ((1 : Int) + (Int.tmod (IntKind.wrap .i64 long) (12 : Int))))), (7, rF 1)], [[di v_.1, di v_.2.1, di v_.2.2.1, di (min (max v_.2.2.2 (-128 : Int)) (127 : Int))], [dl tsI4 [(v_.1, v_.2.1, v_.2.2.1, (min (max v_.2.2.2 (-128 : Int)) (127 : Int)))], .ow tsNode [] (.h 1 1), .ow (.one (.int .i64)) [] (.h 1 2)]], [], 98⟩
theorem law17_PlaceReuses_f7 : P72 3 C72.r.r.r (S72_0 v_ long y2667) k = k (S72_1 v_ long y2667) := by kernel_rfl
abbrev S72_2 : St := ⟨[(2, rF 0), (5, rb y2667), (6, ri (IntKind.wrap .i64 ((1 : Int) + (Int.tmod (IntKind.wrap .i64 long) (12 : Int))))), (7, rF 1), (8, ri 0)], [[di v_.1, di v_.2.1, di v_.2.2.1, di (min (max v_.2.2.2 (-128 : Int)) (127 : Int))], [dl tsI4 [(v_.1, v_.2.1, v_.2.2.1, (min (max v_.2.2.2 (-128 : Int)) (127 : Int)))], .ow tsNode [] (.h 1 1), .ow (.one (.int .i64)) [] (.h 1 2)]], [], 98⟩
theorem law17_PlaceReuses_f8 : P72 1 C72.r.r.r.r.r.r.l (S72_1 v_ long y2667) k = k (S72_2 v_ long y2667) := by kernel_rfl
def law17_PlaceReuses_r8_q (K : Bool → β) : β := (K (decide (s2684.1 < (IntKind.wrap .i64 ((1 : Int) + (Int.tmod (IntKind.wrap .i64 long) (12 : Int)))))))
def law17_PlaceReuses_r8_p : Bool := law17_PlaceReuses_r8_q long s2684 (fun y => y)
theorem law17_PlaceReuses_r8_n (K : Bool → β) : law17_PlaceReuses_r8_q long s2684 K = K (law17_PlaceReuses_r8_p long s2684) := rfl
abbrev S72_3 : St := ⟨[(2, rF 0), (5, rb y2667), (6, ri (IntKind.wrap .i64 ((1 : Int) + (Int.tmod (IntKind.wrap .i64 long) (12 : Int))))), (7, rF 1), (8, ri s2684.1)], [[di v_.1, di v_.2.1, di v_.2.2.1, di (min (max v_.2.2.2 (-128 : Int)) (127 : Int))], [dl tsI4 [(v_.1, v_.2.1, v_.2.2.1, (min (max v_.2.2.2 (-128 : Int)) (127 : Int)))], .ow tsNode s2684.2 (.h 1 1), .ow (.one (.int .i64)) [] (.h 1 2)]], [], 98⟩
theorem law17_PlaceReuses_r8 : P72 1 C72.r.r.r.r.r.r.l.r.b.b.l (S72_3 v_ long y2667 s2684) k = k ⟨[(2, rF 0), (5, rb y2667), (6, ri (IntKind.wrap .i64 ((1 : Int) + (Int.tmod (IntKind.wrap .i64 long) (12 : Int))))), (7, rF 1), (8, ri s2684.1), (35, rb (law17_PlaceReuses_r8_p long s2684))], [[di v_.1, di v_.2.1, di v_.2.2.1, di (min (max v_.2.2.2 (-128 : Int)) (127 : Int))], [dl tsI4 [(v_.1, v_.2.1, v_.2.2.1, (min (max v_.2.2.2 (-128 : Int)) (127 : Int)))], .ow tsNode s2684.2 (.h 1 1), .ow (.one (.int .i64)) [] (.h 1 2)]], [], 98⟩ := Eq.trans (by kernel_rfl) (law17_PlaceReuses_r8_n long s2684 (fun y2686 : Bool => k ⟨[(2, rF 0), (5, rb y2667), (6, ri (IntKind.wrap .i64 ((1 : Int) + (Int.tmod (IntKind.wrap .i64 long) (12 : Int))))), (7, rF 1), (8, ri s2684.1), (35, rb y2686)], [[di v_.1, di v_.2.1, di v_.2.2.1, di (min (max v_.2.2.2 (-128 : Int)) (127 : Int))], [dl tsI4 [(v_.1, v_.2.1, v_.2.2.1, (min (max v_.2.2.2 (-128 : Int)) (127 : Int)))], .ow tsNode s2684.2 (.h 1 1), .ow (.one (.int .i64)) [] (.h 1 2)]], [], 98⟩))
def law17_PlaceReuses_r10_p : Option (List Node) := (bif (decide (s2684.2.length + ([((8 : Int), [s2684.1], (0 : Int), (0 : Int), (0 : Int), (0 : Int), (1 : Int), (0 : Int), (min (max v_.2.2.2 (-128 : Int)) (127 : Int)), (0 : Int), (0 : Int), (0 : Int), [], [])] : List Node).length ≤ maxL)) then (some (s2684.2 ++ [((8 : Int), [s2684.1], (0 : Int), (0 : Int), (0 : Int), (0 : Int), (1 : Int), (0 : Int), (min (max v_.2.2.2 (-128 : Int)) (127 : Int)), (0 : Int), (0 : Int), (0 : Int), [], [])])) else none)
abbrev S72_4 : St := ⟨[(2, rF 0), (5, rb y2667), (6, ri (IntKind.wrap .i64 ((1 : Int) + (Int.tmod (IntKind.wrap .i64 long) (12 : Int))))), (7, rF 1), (8, ri s2684.1)], [[di v_.1, di v_.2.1, di v_.2.2.1, di (min (max v_.2.2.2 (-128 : Int)) (127 : Int))], [dl tsI4 [(v_.1, v_.2.1, v_.2.2.1, (min (max v_.2.2.2 (-128 : Int)) (127 : Int)))], .ow tsNode y2688 (.h 1 1), .ow (.one (.int .i64)) [] (.h 1 2)]], [], 98⟩
theorem law17_PlaceReuses_r10 : R72 C72.r.r.r.r.r.r.l.r.b.b.r.l.b (S72_3 v_ long y2667 s2684) q = Option.bind (law17_PlaceReuses_r10_p v_ s2684) (fun y2688 : (List Node) => q .normal (S72_4 v_ long y2667 s2684 y2688)) := .trans (by kernel_rfl) (bif_b some_b none_b)
theorem law17_PlaceReuses_r9 : R72 C72.r.r.r.r.r.r.l.r.b.b.r.r (S72_4 v_ long y2667 s2684 y2688) q = q .normal ⟨[(2, rF 0), (5, rb y2667), (6, ri (IntKind.wrap .i64 ((1 : Int) + (Int.tmod (IntKind.wrap .i64 long) (12 : Int))))), (7, rF 1), (8, ri (IntKind.wrap .i64 (s2684.1 + 1)))], [[di v_.1, di v_.2.1, di v_.2.2.1, di (min (max v_.2.2.2 (-128 : Int)) (127 : Int))], [dl tsI4 [(v_.1, v_.2.1, v_.2.2.1, (min (max v_.2.2.2 (-128 : Int)) (127 : Int)))], .ow tsNode y2688 (.h 1 1), .ow (.one (.int .i64)) [] (.h 1 2)]], [], 98⟩ := by kernel_rfl
def law17_PlaceReuses_l8_p : Option ((Int × (List Node)) ⊕ (Int × (List Node))) := (bif (law17_PlaceReuses_r8_p long s2684) then (Option.bind (law17_PlaceReuses_r10_p v_ s2684) (fun y2688 : (List Node) => (some (Sum.inl ((IntKind.wrap .i64 (s2684.1 + 1)), y2688))))) else (some (Sum.inr s2684)))
abbrev S72_5 : St := ⟨[(2, rF 0), (5, rb y2667), (6, ri (IntKind.wrap .i64 ((1 : Int) + (Int.tmod (IntKind.wrap .i64 long) (12 : Int))))), (7, rF 1), (8, ri y2689.1)], [[di v_.1, di v_.2.1, di v_.2.2.1, di (min (max v_.2.2.2 (-128 : Int)) (127 : Int))], [dl tsI4 [(v_.1, v_.2.1, v_.2.2.1, (min (max v_.2.2.2 (-128 : Int)) (127 : Int)))], .ow tsNode y2689.2 (.h 1 1), .ow (.one (.int .i64)) [] (.h 1 2)]], [], 98⟩
theorem law17_PlaceReuses_l8_b : R72 C72.r.r.r.r.r.r.l.r.b.b (S72_3 v_ long y2667 s2684) (loopKont 2 q) = Option.bind (law17_PlaceReuses_l8_p v_ long s2684) (either (fun y : (Int × (List Node)) => q .normal ⟨[(2, rF 0), (5, rb y2667), (6, ri (IntKind.wrap .i64 ((1 : Int) + (Int.tmod (IntKind.wrap .i64 long) (12 : Int))))), (7, rF 1), (8, ri y.1)], [[di v_.1, di v_.2.1, di v_.2.2.1, di (min (max v_.2.2.2 (-128 : Int)) (127 : Int))], [dl tsI4 [(v_.1, v_.2.1, v_.2.2.1, (min (max v_.2.2.2 (-128 : Int)) (127 : Int)))], .ow tsNode y.2 (.h 1 1), .ow (.one (.int .i64)) [] (.h 1 2)]], [], 98⟩) (fun y2689 : (Int × (List Node)) => q (.exit 0) (S72_5 v_ long y2667 y2689))) := by
  refine .trans ?_ (bif_b (bind_b fun y2688 => e2_0) e2_1)
  refine .trans seq_push ?_
  refine (pre1 (law17_PlaceReuses_r8 v_ long y2667 s2684 _)).trans ?_
  refine (cond_e (b := (law17_PlaceReuses_r8_p long s2684)) (st' := (S72_3 v_ long y2667 s2684)) ).trans (bif_g ?_ ?_)
  · refine (skip_eq).trans ?_
    refine (seqC_normal (st' := (S72_3 v_ long y2667 s2684))).trans ?_
    refine .trans seq_push ?_
    refine (block_push (id := 1)).trans ?_
    refine (law17_PlaceReuses_r10 v_ long y2667 s2684 _).trans (bind_g fun y2688 => ?_)
    refine block_normal.trans ?_
    refine (seqC_normal (st' := (S72_4 v_ long y2667 s2684 y2688))).trans ?_
    refine (law17_PlaceReuses_r9 v_ long y2667 s2684 y2688 _).trans ?_
    kernel_rfl
  · refine ((exit_eq (j := 0))).trans ?_
    refine seqC_exit.trans ?_
    kernel_rfl
theorem law17_PlaceReuses_l8 : R72 C72.r.r.r.r.r.r.l.r.b (S72_2 v_ long y2667) q = Option.bind (iterN (law17_PlaceReuses_l8_p v_ long) LL ((0 : Int), [])) (fun y2689 : (Int × (List Node)) => q (.exit 0) (S72_5 v_ long y2667 y2689)) :=
  Eq.trans (by kernel_rfl) (loop_iter1 (S := fun s2684 : (Int × (List Node)) => (S72_3 v_ long y2667 s2684)) (Y1 := fun y2689 : (Int × (List Node)) => ((.exit 0), (S72_5 v_ long y2667 y2689))) (fun s q => law17_PlaceReuses_l8_b v_ long y2667 s q) (fun z => rfl) LL ((0 : Int), []))
def law17_PlaceReuses_r11_q (K : (List Int) → β) : β := (K [(IntKind.wrap .i64 ((1 : Int) + (Int.tmod (IntKind.wrap .i64 long) (12 : Int))))])
def law17_PlaceReuses_r11_p : (List Int) := law17_PlaceReuses_r11_q long (fun y => y)
theorem law17_PlaceReuses_r11_n (K : (List Int) → β) : law17_PlaceReuses_r11_q long K = K (law17_PlaceReuses_r11_p long) := rfl
abbrev S72_6 : St := ⟨[(2, rF 0), (5, rb y2667), (6, ri (IntKind.wrap .i64 ((1 : Int) + (Int.tmod (IntKind.wrap .i64 long) (12 : Int))))), (7, rF 1)], [[di v_.1, di v_.2.1, di v_.2.2.1, di (min (max v_.2.2.2 (-128 : Int)) (127 : Int))], [dl tsI4 [(v_.1, v_.2.1, v_.2.2.1, (min (max v_.2.2.2 (-128 : Int)) (127 : Int)))], .ow tsNode y2689.2 (.h 1 1), .ow (.one (.int .i64)) [] (.h 1 2)]], [], 98⟩
abbrev S72_7 : St := ⟨[(2, rF 0), (5, rb y2667), (6, ri (IntKind.wrap .i64 ((1 : Int) + (Int.tmod (IntKind.wrap .i64 long) (12 : Int))))), (7, rF 1)], [[di v_.1, di v_.2.1, di v_.2.2.1, di (min (max v_.2.2.2 (-128 : Int)) (127 : Int))], [dl tsI4 [(v_.1, v_.2.1, v_.2.2.1, (min (max v_.2.2.2 (-128 : Int)) (127 : Int)))], .ow tsNode y2689.2 (.h 1 1), .ow (.one (.int .i64)) (law17_PlaceReuses_r11_p long) (.h 1 2)]], [], 98⟩
theorem law17_PlaceReuses_r11 : P72 1 C72.r.r.r.r.r.r.r (S72_6 v_ long y2667 y2689) k = k (S72_7 v_ long y2667 y2689) := Eq.trans (by kernel_rfl) (law17_PlaceReuses_r11_n long (fun y2690 : (List Int) => k ⟨[(2, rF 0), (5, rb y2667), (6, ri (IntKind.wrap .i64 ((1 : Int) + (Int.tmod (IntKind.wrap .i64 long) (12 : Int))))), (7, rF 1)], [[di v_.1, di v_.2.1, di v_.2.2.1, di (min (max v_.2.2.2 (-128 : Int)) (127 : Int))], [dl tsI4 [(v_.1, v_.2.1, v_.2.2.1, (min (max v_.2.2.2 (-128 : Int)) (127 : Int)))], .ow tsNode y2689.2 (.h 1 1), .ow (.one (.int .i64)) y2690 (.h 1 2)]], [], 98⟩))
abbrev S72_8 : St := ⟨[(2, rF 0), (5, rb y2667), (6, ri (IntKind.wrap .i64 ((1 : Int) + (Int.tmod (IntKind.wrap .i64 long) (12 : Int))))), (7, rF 1), (9, .one (.ow (.one (.int .i64)) y2691.1 (.v 9))), (10, ri y2691.2)], [[di v_.1, di v_.2.1, di v_.2.2.1, di (min (max v_.2.2.2 (-128 : Int)) (127 : Int))], [dl tsI4 [(v_.1, v_.2.1, v_.2.2.1, (min (max v_.2.2.2 (-128 : Int)) (127 : Int)))], .ow tsNode y2689.2 (.h 1 1), .ow (.one (.int .i64)) (law17_PlaceReuses_r11_p long) (.h 1 2)]], [], 98⟩
theorem law17_PlaceReuses_r12 : P72 1 C72.r.r.r.r.r.r.r.r (S72_7 v_ long y2667 y2689) k = Option.bind (place_Places ([(v_.1, v_.2.1, v_.2.2.1, (min (max v_.2.2.2 (-128 : Int)) (127 : Int)))], y2689.2, (law17_PlaceReuses_r11_p long))) fun y2691 : ((List Int) × Int) => k (S72_8 v_ long y2667 y2689 y2691) := by kernel_rfl
abbrev S72_9 : St := ⟨[(5, rb y2667), (6, ri (IntKind.wrap .i64 ((1 : Int) + (Int.tmod (IntKind.wrap .i64 long) (12 : Int))))), (9, .one (.ow (.one (.int .i64)) y2691.1 (.v 9))), (10, ri y2691.2), (11, ri (ref02_Size (v_.1, v_.2.1, v_.2.2.1))), (12, ri y2692.1), (13, ri y2692.2)], [[], []], [], 98⟩
theorem law17_PlaceReuses_r14 : P72 2 C72.r.r.r.r.r.r.r.r.r (S72_8 v_ long y2667 y2689 y2691) k = Option.bind (place_Total ([(v_.1, v_.2.1, v_.2.2.1, (min (max v_.2.2.2 (-128 : Int)) (127 : Int)))], y2689.2, (law17_PlaceReuses_r11_p long))) fun y2692 : (Int × Int) => k (S72_9 v_ long y2667 y2691 y2692) := by kernel_rfl
def law17_PlaceReuses_r15_q (K : Bool → β) : β := (bif (y2691.2 != 0) then (K true) else (bif (y2692.2 != 0) then (K true) else (bif ((y2691.1.length : Int) != (IntKind.wrap .i64 ((IntKind.wrap .i64 ((1 : Int) + (Int.tmod (IntKind.wrap .i64 long) (12 : Int)))) + 1))) then (K true) else (K (y2692.1 != (IntKind.wrap .i64 ((2 : Int) * (ref02_Size (v_.1, v_.2.1, v_.2.2.1)))))))))
def law17_PlaceReuses_r15_p : Bool := law17_PlaceReuses_r15_q v_ long y2691 y2692 (fun y => y)
theorem law17_PlaceReuses_r15_n (K : Bool → β) : law17_PlaceReuses_r15_q v_ long y2691 y2692 K = K (law17_PlaceReuses_r15_p v_ long y2691 y2692) := (bif_k K rfl (bif_k K rfl (bif_k K rfl rfl)))
theorem law17_PlaceReuses_r15 : P72 1 C72.r.r.r.r.r.r.r.r.r.r.r.l (S72_9 v_ long y2667 y2691 y2692) k = k ⟨[(5, rb y2667), (6, ri (IntKind.wrap .i64 ((1 : Int) + (Int.tmod (IntKind.wrap .i64 long) (12 : Int))))), (9, .one (.ow (.one (.int .i64)) y2691.1 (.v 9))), (11, ri (ref02_Size (v_.1, v_.2.1, v_.2.2.1))), (82, rb (law17_PlaceReuses_r15_p v_ long y2691 y2692))], [[], []], [], 98⟩ := Eq.trans (by kernel_rfl) (law17_PlaceReuses_r15_n v_ long y2691 y2692 (fun y2694 : Bool => k ⟨[(5, rb y2667), (6, ri (IntKind.wrap .i64 ((1 : Int) + (Int.tmod (IntKind.wrap .i64 long) (12 : Int))))), (9, .one (.ow (.one (.int .i64)) y2691.1 (.v 9))), (11, ri (ref02_Size (v_.1, v_.2.1, v_.2.2.1))), (82, rb y2694)], [[], []], [], 98⟩))
abbrev S72_10 : St := ⟨[(5, rb y2667), (6, ri (IntKind.wrap .i64 ((1 : Int) + (Int.tmod (IntKind.wrap .i64 long) (12 : Int))))), (9, .one (.ow (.one (.int .i64)) y2691.1 (.v 9))), (11, ri (ref02_Size (v_.1, v_.2.1, v_.2.2.1)))], [[], []], [], 98⟩
abbrev S72_11 : St := ⟨[(4, rb false)], [[], []], [], 98⟩
theorem law17_PlaceReuses_fzx1 : P72 1 C72.r.r.r.r.r.r.r.r.r.r.r.l.r.t (S72_10 v_ long y2667 y2691) k = k S72_11 := by kernel_rfl
abbrev S72_12 : St := ⟨[(5, rb y2667), (6, ri (IntKind.wrap .i64 ((1 : Int) + (Int.tmod (IntKind.wrap .i64 long) (12 : Int))))), (9, .one (.ow (.one (.int .i64)) y2691.1 (.v 9))), (11, ri (ref02_Size (v_.1, v_.2.1, v_.2.2.1))), (14, ri 0)], [[], []], [], 98⟩
theorem law17_PlaceReuses_f18 : P72 1 C72.r.r.r.r.r.r.r.r.r.r.r.r.l (S72_10 v_ long y2667 y2691) k = k (S72_12 v_ long y2667 y2691) := by kernel_rfl
def law17_PlaceReuses_r18_q (K : Bool → β) : β := (K (decide (s2712 ≤ (IntKind.wrap .i64 ((1 : Int) + (Int.tmod (IntKind.wrap .i64 long) (12 : Int)))))))
def law17_PlaceReuses_r18_p : Bool := law17_PlaceReuses_r18_q long s2712 (fun y => y)
theorem law17_PlaceReuses_r18_n (K : Bool → β) : law17_PlaceReuses_r18_q long s2712 K = K (law17_PlaceReuses_r18_p long s2712) := rfl
abbrev S72_13 : St := ⟨[(5, rb y2667), (6, ri (IntKind.wrap .i64 ((1 : Int) + (Int.tmod (IntKind.wrap .i64 long) (12 : Int))))), (9, .one (.ow (.one (.int .i64)) y2691.1 (.v 9))), (11, ri (ref02_Size (v_.1, v_.2.1, v_.2.2.1))), (14, ri s2712)], [[], []], [], 98⟩
theorem law17_PlaceReuses_r18 : P72 1 C72.r.r.r.r.r.r.r.r.r.r.r.r.l.r.b.b.l (S72_13 v_ long y2667 y2691 s2712) k = k ⟨[(5, rb y2667), (6, ri (IntKind.wrap .i64 ((1 : Int) + (Int.tmod (IntKind.wrap .i64 long) (12 : Int))))), (9, .one (.ow (.one (.int .i64)) y2691.1 (.v 9))), (11, ri (ref02_Size (v_.1, v_.2.1, v_.2.2.1))), (14, ri s2712), (85, rb (law17_PlaceReuses_r18_p long s2712))], [[], []], [], 98⟩ := Eq.trans (by kernel_rfl) (law17_PlaceReuses_r18_n long s2712 (fun y2714 : Bool => k ⟨[(5, rb y2667), (6, ri (IntKind.wrap .i64 ((1 : Int) + (Int.tmod (IntKind.wrap .i64 long) (12 : Int))))), (9, .one (.ow (.one (.int .i64)) y2691.1 (.v 9))), (11, ri (ref02_Size (v_.1, v_.2.1, v_.2.2.1))), (14, ri s2712), (85, rb y2714)], [[], []], [], 98⟩))
def law17_PlaceReuses_r20_p : Option Bool := (bif (decide ((0 : Int) ≤ s2712)) then (bif (decide (s2712 < (y2691.1.length : Int))) then (some ((gt y2691.1 s2712 (0 : Int)) != (IntKind.wrap .i64 ((Int.tmod s2712 (2 : Int)) * (ref02_Size (v_.1, v_.2.1, v_.2.2.1)))))) else none) else none)
theorem law17_PlaceReuses_r20 : P72 1 C72.r.r.r.r.r.r.r.r.r.r.r.r.l.r.b.b.r.l.b (S72_13 v_ long y2667 y2691 s2712) k = Option.bind (law17_PlaceReuses_r20_p v_ y2691 s2712) (fun y2716 : Bool => k ⟨[(5, rb y2667), (6, ri (IntKind.wrap .i64 ((1 : Int) + (Int.tmod (IntKind.wrap .i64 long) (12 : Int))))), (9, .one (.ow (.one (.int .i64)) y2691.1 (.v 9))), (11, ri (ref02_Size (v_.1, v_.2.1, v_.2.2.1))), (14, ri s2712), (96, rb y2716)], [[], []], [], 98⟩) := .trans (by kernel_rfl) (bif_b (bif_b some_b none_b) none_b)
theorem law17_PlaceReuses_fzx2 : P72 1 C72.r.r.r.r.r.r.r.r.r.r.r.r.l.r.b.b.r.l.b.r.t (S72_13 v_ long y2667 y2691 s2712) k = k S72_11 := by kernel_rfl
theorem law17_PlaceReuses_r19 : R72 C72.r.r.r.r.r.r.r.r.r.r.r.r.l.r.b.b.r.r (S72_13 v_ long y2667 y2691 s2712) q = q .normal ⟨[(5, rb y2667), (6, ri (IntKind.wrap .i64 ((1 : Int) + (Int.tmod (IntKind.wrap .i64 long) (12 : Int))))), (9, .one (.ow (.one (.int .i64)) y2691.1 (.v 9))), (11, ri (ref02_Size (v_.1, v_.2.1, v_.2.2.1))), (14, ri (IntKind.wrap .i64 (s2712 + 1)))], [[], []], [], 98⟩ := by kernel_rfl
def law17_PlaceReuses_l18_p : Option (Int ⊕ (Int ⊕ Unit)) := (bif (law17_PlaceReuses_r18_p long s2712) then (Option.bind (law17_PlaceReuses_r20_p v_ y2691 s2712) (fun y2716 : Bool => (bif y2716 then (some (Sum.inr (Sum.inr ()))) else (some (Sum.inl (IntKind.wrap .i64 (s2712 + 1))))))) else (some (Sum.inr (Sum.inl s2712))))
abbrev S72_14 (y2717 : Int) : St := ⟨[(5, rb y2667), (6, ri (IntKind.wrap .i64 ((1 : Int) + (Int.tmod (IntKind.wrap .i64 long) (12 : Int))))), (9, .one (.ow (.one (.int .i64)) y2691.1 (.v 9))), (11, ri (ref02_Size (v_.1, v_.2.1, v_.2.2.1))), (14, ri y2717)], [[], []], [], 98⟩
theorem law17_PlaceReuses_l18_b : R72 C72.r.r.r.r.r.r.r.r.r.r.r.r.l.r.b.b (S72_13 v_ long y2667 y2691 s2712) (loopKont 2 q) = Option.bind (law17_PlaceReuses_l18_p v_ long y2691 s2712) (either (fun y : Int => q .normal ⟨[(5, rb y2667), (6, ri (IntKind.wrap .i64 ((1 : Int) + (Int.tmod (IntKind.wrap .i64 long) (12 : Int))))), (9, .one (.ow (.one (.int .i64)) y2691.1 (.v 9))), (11, ri (ref02_Size (v_.1, v_.2.1, v_.2.2.1))), (14, ri y)], [[], []], [], 98⟩) (either (fun y2717 : Int => q (.exit 2) (S72_14 v_ long y2667 y2691 y2717)) (fun y2718 : Unit => q .ret S72_11))) := by
  refine .trans ?_ (bif_b (bind_b fun y2716 => (bif_b e3_2 e3_0)) e3_1)
  refine .trans seq_push ?_
  refine (pre1 (law17_PlaceReuses_r18 v_ long y2667 y2691 s2712 _)).trans ?_
  refine (cond_e (b := (law17_PlaceReuses_r18_p long s2712)) (st' := (S72_13 v_ long y2667 y2691 s2712)) ).trans (bif_g ?_ ?_)
  · refine (skip_eq).trans ?_
    refine (seqC_normal (st' := (S72_13 v_ long y2667 y2691 s2712))).trans ?_
    refine .trans seq_push ?_
    refine (block_push (id := 3)).trans ?_
    refine (pre1 (law17_PlaceReuses_r20 v_ long y2667 y2691 s2712 _)).trans (bind_g fun y2716 => ?_)
    refine (cond_e (b := y2716) (st' := (S72_13 v_ long y2667 y2691 s2712)) ).trans (bif_g ?_ ?_)
    · refine (pre1 (law17_PlaceReuses_fzx2 v_ long y2667 y2691 s2712 _)).trans ?_
      refine (ret_eq).trans ?_
      refine block_ret.trans ?_
      refine seqC_ret.trans ?_
      kernel_rfl
    · refine (skip_eq).trans ?_
      refine block_normal.trans ?_
      refine (seqC_normal (st' := (S72_13 v_ long y2667 y2691 s2712))).trans ?_
      refine (law17_PlaceReuses_r19 v_ long y2667 y2691 s2712 _).trans ?_
      kernel_rfl
  · refine ((exit_eq (j := 2))).trans ?_
    refine seqC_exit.trans ?_
    kernel_rfl
theorem law17_PlaceReuses_l18 : R72 C72.r.r.r.r.r.r.r.r.r.r.r.r.l.r.b (S72_12 v_ long y2667 y2691) q = Option.bind (iterN (law17_PlaceReuses_l18_p v_ long y2691) LL (0 : Int)) (either (fun y2717 : Int => q (.exit 2) (S72_14 v_ long y2667 y2691 y2717)) (fun y2718 : Unit => q .ret S72_11)) :=
  Eq.trans (by kernel_rfl) (loop_iter2 (S := fun s2712 : Int => (S72_13 v_ long y2667 y2691 s2712)) (Y1 := fun y2717 : Int => ((.exit 2), (S72_14 v_ long y2667 y2691 y2717))) (Y2 := fun y2718 : Unit => (.ret, S72_11)) (fun s q => law17_PlaceReuses_l18_b v_ long y2667 y2691 s q) (fun z => rfl) (fun z => rfl) LL (0 : Int))
theorem law17_PlaceReuses_fzx3 : P72 1 C72.r.r.r.r.r.r.r.r.r.r.r.r.r ⟨[(5, rb y2667)], [[], []], [], 98⟩ k = k ⟨[(4, rb y2667)], [[], []], [], 98⟩ := by kernel_rfl
/-- quilt/quiltlaw17.PlaceReuses -/
def law17_PlaceReuses : Option Bool := (Option.bind law17_shown (fun y2667 : Bool => (bif ((ref02_May (v_.1, v_.2.1, v_.2.2.1)) != 0) then (some y2667) else (Option.bind (iterN (law17_PlaceReuses_l8_p v_ long) LL ((0 : Int), [])) (fun y2689 : (Int × (List Node)) => (Option.bind (place_Places ([(v_.1, v_.2.1, v_.2.2.1, (min (max v_.2.2.2 (-128 : Int)) (127 : Int)))], y2689.2, (law17_PlaceReuses_r11_p long))) (fun y2691 : ((List Int) × Int) => (Option.bind (place_Total ([(v_.1, v_.2.1, v_.2.2.1, (min (max v_.2.2.2 (-128 : Int)) (127 : Int)))], y2689.2, (law17_PlaceReuses_r11_p long))) (fun y2692 : (Int × Int) => (bif (law17_PlaceReuses_r15_p v_ long y2691 y2692) then (some false) else (Option.bind (iterN (law17_PlaceReuses_l18_p v_ long y2691) LL (0 : Int)) (either (fun y2717 : Int => (some y2667)) (fun y2718 : Unit => (some false))))))))))))))
theorem law17_PlaceReuses_is : stepS E cp67 ce3 5 [rA tsI4 v_, rk .u8 long] = Option.bind (law17_PlaceReuses v_ long) (fun y : Bool => some (rb y : R)) := by
  refine .trans ?_ (bind_b fun y2667 => (bif_b some_b (bind_b fun y2689 => (bind_b fun y2691 => (bind_b fun y2692 => (bif_b some_b (bind_b (either_b (fun y2717 => some_b) (fun y2718 => some_b)))))))))
  refine (stepG_is (nt := 98) (regs := [(0, rA tsI4 v_), (1, rk .u8 long)])).trans ?_
  refine (pre2 (law17_PlaceReuses_r1 v_ long _)).trans (bind_g fun y2667 => ?_)
  refine .trans seq_push ?_
  refine (pre1 (law17_PlaceReuses_f1000003 v_ long y2667 _)).trans ?_
  refine (cond_e (b := ((ref02_May (v_.1, v_.2.1, v_.2.2.1)) != 0)) (st' := (S72_0 v_ long y2667)) ).trans (bif_g ?_ ?_)
  · refine (pre1 (law17_PlaceReuses_fz v_ long y2667 _)).trans ?_
    refine (ret_eq).trans ?_
    refine seqC_ret.trans ?_
    kernel_rfl
  · refine (skip_eq).trans ?_
    refine (seqC_normal (st' := (S72_0 v_ long y2667))).trans ?_
    refine (pre3 (law17_PlaceReuses_f7 v_ long y2667 _)).trans ?_
    refine .trans seq_push ?_
    refine (pre1 (law17_PlaceReuses_f8 v_ long y2667 _)).trans ?_
    refine (block_push (id := 0)).trans ?_
    refine (law17_PlaceReuses_l8 v_ long y2667 _).trans (bind_g fun y2689 => ?_)
    refine block_same.trans ?_
    refine (seqC_normal (st' := (S72_6 v_ long y2667 y2689))).trans ?_
    refine (pre1 (law17_PlaceReuses_r11 v_ long y2667 y2689 _)).trans ?_
    refine (pre1 (law17_PlaceReuses_r12 v_ long y2667 y2689 _)).trans (bind_g fun y2691 => ?_)
    refine (pre2 (law17_PlaceReuses_r14 v_ long y2667 y2689 y2691 _)).trans (bind_g fun y2692 => ?_)
    refine .trans seq_push ?_
    refine (pre1 (law17_PlaceReuses_r15 v_ long y2667 y2691 y2692 _)).trans ?_
    refine (cond_e (b := (law17_PlaceReuses_r15_p v_ long y2691 y2692)) (st' := (S72_10 v_ long y2667 y2691)) ).trans (bif_g ?_ ?_)
    · refine (pre1 (law17_PlaceReuses_fzx1 v_ long y2667 y2691 _)).trans ?_
      refine (ret_eq).trans ?_
      refine seqC_ret.trans ?_
      kernel_rfl
    · refine (skip_eq).trans ?_
      refine (seqC_normal (st' := (S72_10 v_ long y2667 y2691))).trans ?_
      refine .trans seq_push ?_
      refine (pre1 (law17_PlaceReuses_f18 v_ long y2667 y2691 _)).trans ?_
      refine (block_push (id := 2)).trans ?_
      refine (law17_PlaceReuses_l18 v_ long y2667 y2691 _).trans (bind_g (either_g (fun y2717 => ?_) (fun y2718 => ?_)))
      · refine block_same.trans ?_
        refine (seqC_normal (st' := ⟨[(5, rb y2667)], [[], []], [], 98⟩)).trans ?_
        refine (pre1 (law17_PlaceReuses_fzx3 y2667 _)).trans ?_
        refine (ret_eq).trans ?_
        kernel_rfl
      · refine block_ret.trans ?_
        refine seqC_ret.trans ?_
        kernel_rfl
noncomputable def cp70 : CallP := withC cp67 5 [(.agg tsI4), (.one (.g (.int .u8)))] (.one pB) (fun y : Bool => y) (fun x => law17_PlaceReuses x.1 x.2.1)
theorem cp70_ok : PureOK E cp70 := conS eok cp67_ok ce3_ok fun x => Eq.mp (by kernel_rfl) (law17_PlaceReuses_is x.1 x.2.1)
theorem law17_PlaceReuses_walk (ht : law17_PlaceReuses v_ long = some true) (w : World) (vs : List Value) (hrd : ∀ γ : Gh, Free γ → rdRs w γ [argR true tsI4 v_, argR false (.one (.int .u8)) long] vs) : Calls E.P 5 vs.toArray w fun e w' => e = .returned (.bool true) ∧ Below w.heap.size w w' :=
  walk_true (E := E) (stepS_ok eok cp67_ok ce3_ok) (show stepS E cp67 ce3 5 [rA tsI4 v_, rk .u8 long] = some (.one (.g .bool true)) from by rw [law17_PlaceReuses_is, ht]; rfl) w fun γ hγ => Eq.mp (by kernel_rfl) (hrd γ hγ)
end
end Go.V.P
