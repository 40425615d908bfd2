/- What functions compute. -/
import Derived.Test.YtdgdgoekapekpaaEv8
namespace Go.V.P
open Go.RowKit Go.V Go.Proofs
set_option linter.unusedVariables false
set_option maxRecDepth 100000
section
variable {α β : Type} (g_ : Graph) (l_ : (List Int)) (y2739 : Bool) (y2740 : Graph) (y2741 : ((List I4) × Int)) (y2744 : ((List Int) × Int × Int × Int × Int × Int × Int × Int × Int × Int × (List Int) × (List Int))) (y2745 : (List Node)) (y2747 : ((List I4) × Int)) (y2750 : ((List (List Int)) × Int)) (y2754 : Bool) (y2756 : Bool) (k : St → Option α)
noncomputable abbrev C97 := codeOf E.P 4
noncomputable abbrev P97 := @preK α E 4 cp92 ce4
abbrev S97_0 : St := ⟨[(1, rl (.one (.int .i8)) l_), (2, rF 0), (5, rb y2739)], [(a01.leaves g_)], [], 119⟩
theorem b9d : P97 2 C97 ⟨[(0, rA a01 g_), (1, rl (.one (.int .i8)) l_)], [], [], 119⟩ k = Option.bind a1x fun y2739 : Bool => k (S97_0 g_ l_ y2739) := by kernel_rfl
abbrev S97_1 : St := ⟨[(1, rl (.one (.int .i8)) l_), (2, rF 0), (5, rb y2739)], [(a01.leaves y2740)], [], 119⟩
theorem b9e : P97 1 C97.r.r (S97_0 g_ l_ y2739) k = Option.bind (a2d g_) fun y2740 : Graph => k (S97_1 l_ y2739 y2740) := by kernel_rfl
abbrev S97_2 : St := ⟨[(1, rl (.one (.int .i8)) l_), (2, rF 0), (5, rb y2739), (7, ri y2741.2)], [(a01.leaves y2740)], [], 119⟩
theorem b9f : P97 1 C97.r.r.r (S97_1 l_ y2739 y2740) k = Option.bind (a17 y2740) fun y2741 : ((List I4) × Int) => k (S97_2 l_ y2739 y2740 y2741) := by kernel_rfl
def a7c (K : Bool → β) : β := (bif (y2741.2 != 0) then (K true) else (bif ((y2740.2.1.length : Int) == 0) then (K true) else (K (decide ((y2740.2.1.length : Int) ≥ 12)))))
def a1q : Bool := a7c y2740 y2741 (fun y => y)
theorem b6m (K : Bool → β) : a7c y2740 y2741 K = K (a1q y2740 y2741) := (bif_k K rfl (bif_k K rfl rfl))
theorem b9g : P97 1 C97.r.r.r.r.l (S97_2 l_ y2739 y2740 y2741) k = k ⟨[(1, rl (.one (.int .i8)) l_), (2, rF 0), (5, rb y2739), (38, rb (a1q y2740 y2741))], [(a01.leaves y2740)], [], 119⟩ := Eq.trans (by kernel_rfl) (b6m y2740 y2741 (fun y2743 : Bool => k ⟨[(1, rl (.one (.int .i8)) l_), (2, rF 0), (5, rb y2739), (38, rb y2743)], [(a01.leaves y2740)], [], 119⟩))
theorem b9c : P97 1 C97.r.r.r.r.l.r.t (S97_1 l_ y2739 y2740) k = k ⟨[(4, rb y2739)], [[]], [], 119⟩ := by kernel_rfl
def a7d : Option ((List Int) × Int × Int × Int × Int × Int × Int × Int × Int × Int × (List Int) × (List Int)) := (bif (decide ((0 : Int) ≤ (IntKind.wrap .i64 ((y2740.2.1.length : Int) - 1)))) then (bif (decide ((IntKind.wrap .i64 ((y2740.2.1.length : Int) - 1)) < (y2740.2.1.length : Int))) then (some ((gt y2740.2.1 (IntKind.wrap .i64 ((y2740.2.1.length : Int) - 1)) dNode).2.1, (gt y2740.2.1 (IntKind.wrap .i64 ((y2740.2.1.length : Int) - 1)) dNode).2.2.2.1, (gt y2740.2.1 (IntKind.wrap .i64 ((y2740.2.1.length : Int) - 1)) dNode).2.2.2.2.1, (gt y2740.2.1 (IntKind.wrap .i64 ((y2740.2.1.length : Int) - 1)) dNode).2.2.2.2.2.1, (gt y2740.2.1 (IntKind.wrap .i64 ((y2740.2.1.length : Int) - 1)) dNode).2.2.2.2.2.2.1, (gt y2740.2.1 (IntKind.wrap .i64 ((y2740.2.1.length : Int) - 1)) dNode).2.2.2.2.2.2.2.1, (gt y2740.2.1 (IntKind.wrap .i64 ((y2740.2.1.length : Int) - 1)) dNode).2.2.2.2.2.2.2.2.1, (gt y2740.2.1 (IntKind.wrap .i64 ((y2740.2.1.length : Int) - 1)) dNode).2.2.2.2.2.2.2.2.2.1, (gt y2740.2.1 (IntKind.wrap .i64 ((y2740.2.1.length : Int) - 1)) dNode).2.2.2.2.2.2.2.2.2.2.1, (gt y2740.2.1 (IntKind.wrap .i64 ((y2740.2.1.length : Int) - 1)) dNode).2.2.2.2.2.2.2.2.2.2.2.1, (gt y2740.2.1 (IntKind.wrap .i64 ((y2740.2.1.length : Int) - 1)) dNode).2.2.2.2.2.2.2.2.2.2.2.2.1, (gt y2740.2.1 (IntKind.wrap .i64 ((y2740.2.1.length : Int) - 1)) dNode).2.2.2.2.2.2.2.2.2.2.2.2.2)) else none) else none)
abbrev S97_3 : St := ⟨[(1, rl (.one (.int .i8)) l_), (2, rF 0), (5, rb y2739), (8, rF 1), (9, rF 2)], [(a01.leaves y2740), (a01.leaves y2740), [di ((gt y2740.2.1 (IntKind.wrap .i64 ((y2740.2.1.length : Int) - 1)) dNode).1), dl (.one (.int .i64)) y2744.1, di ((gt y2740.2.1 (IntKind.wrap .i64 ((y2740.2.1.length : Int) - 1)) dNode).2.2.1), di y2744.2.1, di y2744.2.2.1, di y2744.2.2.2.1, di y2744.2.2.2.2.1, di y2744.2.2.2.2.2.1, di y2744.2.2.2.2.2.2.1, di y2744.2.2.2.2.2.2.2.1, di y2744.2.2.2.2.2.2.2.2.1, di y2744.2.2.2.2.2.2.2.2.2.1, dl (.one (.int .i8)) y2744.2.2.2.2.2.2.2.2.2.2.1, dl (.one (.int .i32)) y2744.2.2.2.2.2.2.2.2.2.2.2]], [], 119⟩
theorem b9h : P97 2 C97.r.r.r.r.r (S97_1 l_ y2739 y2740) k = Option.bind (a7d y2740) (fun y2744 : ((List Int) × Int × Int × Int × Int × Int × Int × Int × Int × Int × (List Int) × (List Int)) => k (S97_3 l_ y2739 y2740 y2744)) := .trans (by kernel_rfl) (bif_b (bif_b some_b none_b) none_b)
theorem b1u : P97 1 C97.r.r.r.r.r.r.r.l (S97_3 l_ y2739 y2740 y2744) k = k ⟨[(1, rl (.one (.int .i8)) l_), (2, rF 0), (5, rb y2739), (8, rF 1), (9, rF 2), (52, rb (decide ((y2744.2.2.2.2.2.2.2.2.2.2.1.length : Int) > 500)))], [(a01.leaves y2740), (a01.leaves y2740), [di ((gt y2740.2.1 (IntKind.wrap .i64 ((y2740.2.1.length : Int) - 1)) dNode).1), dl (.one (.int .i64)) y2744.1, di ((gt y2740.2.1 (IntKind.wrap .i64 ((y2740.2.1.length : Int) - 1)) dNode).2.2.1), di y2744.2.1, di y2744.2.2.1, di y2744.2.2.2.1, di y2744.2.2.2.2.1, di y2744.2.2.2.2.2.1, di y2744.2.2.2.2.2.2.1, di y2744.2.2.2.2.2.2.2.1, di y2744.2.2.2.2.2.2.2.2.1, di y2744.2.2.2.2.2.2.2.2.2.1, dl (.one (.int .i8)) y2744.2.2.2.2.2.2.2.2.2.2.1, dl (.one (.int .i32)) y2744.2.2.2.2.2.2.2.2.2.2.2]], [], 119⟩ := by kernel_rfl
theorem b6j : P97 1 C97.r.r.r.r.r.r.r.l.r.t (S97_3 l_ y2739 y2740 y2744) k = k ⟨[(4, rb y2739)], [[], [], []], [], 119⟩ := by kernel_rfl
def a6n : Option (List Node) := (bif (decide (([] : List Node).length + y2740.2.1.length ≤ maxL)) then (bif (decide (([] ++ y2740.2.1).length + ([((gt y2740.2.1 (IntKind.wrap .i64 ((y2740.2.1.length : Int) - 1)) dNode).1, y2744.1, (gt y2740.2.1 (IntKind.wrap .i64 ((y2740.2.1.length : Int) - 1)) dNode).2.2.1, y2744.2.1, y2744.2.2.1, y2744.2.2.2.1, y2744.2.2.2.2.1, y2744.2.2.2.2.2.1, y2744.2.2.2.2.2.2.1, y2744.2.2.2.2.2.2.2.1, y2744.2.2.2.2.2.2.2.2.1, y2744.2.2.2.2.2.2.2.2.2.1, y2744.2.2.2.2.2.2.2.2.2.2.1, y2744.2.2.2.2.2.2.2.2.2.2.2)] : List Node).length ≤ maxL)) then (some (([] ++ y2740.2.1) ++ [((gt y2740.2.1 (IntKind.wrap .i64 ((y2740.2.1.length : Int) - 1)) dNode).1, y2744.1, (gt y2740.2.1 (IntKind.wrap .i64 ((y2740.2.1.length : Int) - 1)) dNode).2.2.1, y2744.2.1, y2744.2.2.1, y2744.2.2.2.1, y2744.2.2.2.2.1, y2744.2.2.2.2.2.1, y2744.2.2.2.2.2.2.1, y2744.2.2.2.2.2.2.2.1, y2744.2.2.2.2.2.2.2.2.1, y2744.2.2.2.2.2.2.2.2.2.1, y2744.2.2.2.2.2.2.2.2.2.2.1, y2744.2.2.2.2.2.2.2.2.2.2.2)])) else none) else none)
abbrev S97_4 : St := ⟨[(1, rl (.one (.int .i8)) l_), (2, rF 0), (5, rb y2739), (8, rF 1)], [(a01.leaves y2740), [dl tsI4 y2740.1, .ow a00 y2745 (.h 1 1), dl (.one (.int .i64)) y2740.2.2], []], [], 119⟩
theorem b7n : P97 1 C97.r.r.r.r.r.r.r.r (S97_3 l_ y2739 y2740 y2744) k = Option.bind (a6n y2740 y2744) (fun y2745 : (List Node) => k (S97_4 l_ y2739 y2740 y2745)) := .trans (by kernel_rfl) (bif_b (bif_b some_b none_b) none_b)
def a6o (K : (List Int) → β) : β := (K [(IntKind.wrap .i64 ((y2740.1.length : Int) + (y2740.2.1.length : Int))), (IntKind.wrap .i64 ((IntKind.wrap .i64 ((y2740.1.length : Int) + (y2740.2.1.length : Int))) - 1)), (IntKind.wrap .i64 ((y2740.1.length : Int) + (y2740.2.1.length : Int)))])
def a0m : (List Int) := a6o y2740 (fun y => y)
theorem b5q (K : (List Int) → β) : a6o y2740 K = K (a0m y2740) := rfl
abbrev S97_5 : St := ⟨[(1, rl (.one (.int .i8)) l_), (5, rb y2739), (8, rF 1)], [[], [dl tsI4 y2740.1, .ow a00 y2745 (.h 1 1), .ow (.one (.int .i64)) (a0m y2740) (.h 1 2)], []], [], 119⟩
theorem b7o : P97 2 C97.r.r.r.r.r.r.r.r.r (S97_4 l_ y2739 y2740 y2745) k = k (S97_5 l_ y2739 y2740 y2745) := Eq.trans (by kernel_rfl) (b5q y2740 (fun y2746 : (List Int) => k ⟨[(1, rl (.one (.int .i8)) l_), (5, rb y2739), (8, rF 1)], [[], [dl tsI4 y2740.1, .ow a00 y2745 (.h 1 1), .ow (.one (.int .i64)) y2746 (.h 1 2)], []], [], 119⟩))
abbrev S97_6 : St := ⟨[(1, rl (.one (.int .i8)) l_), (5, rb y2739), (8, rF 1), (12, ri y2747.2)], [[], [dl tsI4 y2740.1, .ow a00 y2745 (.h 1 1), .ow (.one (.int .i64)) (a0m y2740) (.h 1 2)], []], [], 119⟩
theorem b7p : P97 1 C97.r.r.r.r.r.r.r.r.r.r.r (S97_5 l_ y2739 y2740 y2745) k = Option.bind (a17 (y2740.1, y2745, (a0m y2740))) fun y2747 : ((List I4) × Int) => k (S97_6 l_ y2739 y2740 y2745 y2747) := by kernel_rfl
theorem b1v : P97 1 C97.r.r.r.r.r.r.r.r.r.r.r.r.l (S97_6 l_ y2739 y2740 y2745 y2747) k = k ⟨[(1, rl (.one (.int .i8)) l_), (5, rb y2739), (8, rF 1), (81, rb (y2747.2 != 0))], [[], [dl tsI4 y2740.1, .ow a00 y2745 (.h 1 1), .ow (.one (.int .i64)) (a0m y2740) (.h 1 2)], []], [], 119⟩ := by kernel_rfl
theorem b6k : P97 1 C97.r.r.r.r.r.r.r.r.r.r.r.r.l.r.t (S97_5 l_ y2739 y2740 y2745) k = k ⟨[(4, rb y2739)], [[], [], []], [], 119⟩ := by kernel_rfl
def a6p : Option ((List (List Int)) × Int) := (Option.bind (a2y (y2740.1, y2745, (a0m y2740)) l_) (fun y2748 : (List (List Int)) => (Option.bind (a6f (y2740.1, y2745, (a0m y2740)) y2748) (fun y2749 : ((List (List Int)) × Int) => (some y2749)))))
abbrev S97_7 : St := ⟨[(5, rb y2739), (13, .one (.ow (.one (.sl (.one (.int .i8)))) y2750.1 (.v 13))), (14, ri y2750.2)], [[], [], []], [], 119⟩
theorem b7q : P97 1 C97.r.r.r.r.r.r.r.r.r.r.r.r.r (S97_5 l_ y2739 y2740 y2745) k = Option.bind (a6p l_ y2740 y2745) (fun y2750 : ((List (List Int)) × Int) => k (S97_7 y2739 y2750)) := .trans (by kernel_rfl) (bind_b fun y2748 => (bind_b fun y2749 => some_b))
def a6q (K : Bool → β) : β := (bif (y2750.2 != 0) then (K true) else (K ((y2750.1.length : Int) != 3)))
def a1n : Bool := a6q y2750 (fun y => y)
theorem b5r (K : Bool → β) : a6q y2750 K = K (a1n y2750) := (bif_k K rfl rfl)
theorem b7r : P97 1 C97.r.r.r.r.r.r.r.r.r.r.r.r.r.r.l (S97_7 y2739 y2750) k = k ⟨[(5, rb y2739), (13, .one (.ow (.one (.sl (.one (.int .i8)))) y2750.1 (.v 13))), (97, rb (a1n y2750))], [[], [], []], [], 119⟩ := Eq.trans (by kernel_rfl) (b5r y2750 (fun y2752 : Bool => k ⟨[(5, rb y2739), (13, .one (.ow (.one (.sl (.one (.int .i8)))) y2750.1 (.v 13))), (97, rb y2752)], [[], [], []], [], 119⟩))
abbrev S97_8 : St := ⟨[(5, rb y2739), (13, .one (.ow (.one (.sl (.one (.int .i8)))) y2750.1 (.v 13)))], [[], [], []], [], 119⟩
theorem b6l : P97 1 C97.r.r.r.r.r.r.r.r.r.r.r.r.r.r.l.r.t (S97_8 y2739 y2750) k = k ⟨[(4, rb false)], [[], [], []], [], 119⟩ := by kernel_rfl
def a6r : Option Bool := (bif (decide ((0 : Int) < (y2750.1.length : Int))) then (bif (decide ((1 : Int) < (y2750.1.length : Int))) then (Option.bind (a2f (gt y2750.1 (0 : Int) []) (gt y2750.1 (1 : Int) [])) (fun y2753 : Bool => (some y2753))) else none) else none)
abbrev S97_9 : St := ⟨[(5, rb y2739), (13, .one (.ow (.one (.sl (.one (.int .i8)))) y2750.1 (.v 13))), (15, rb y2754)], [[], [], []], [], 119⟩
theorem b7s : P97 1 C97.r.r.r.r.r.r.r.r.r.r.r.r.r.r.r (S97_8 y2739 y2750) k = Option.bind (a6r y2750) (fun y2754 : Bool => k (S97_9 y2739 y2750 y2754)) := .trans (by kernel_rfl) (bif_b (bif_b (bind_b fun y2753 => some_b) none_b) none_b)
def a6s : Option Bool := (bif (decide ((0 : Int) < (y2750.1.length : Int))) then (bif (decide ((2 : Int) < (y2750.1.length : Int))) then (Option.bind (a2f (gt y2750.1 (0 : Int) []) (gt y2750.1 (2 : Int) [])) (fun y2755 : Bool => (some y2755))) else none) else none)
theorem b7t : P97 1 C97.r.r.r.r.r.r.r.r.r.r.r.r.r.r.r.r (S97_9 y2739 y2750 y2754) k = Option.bind (a6s y2750) (fun y2756 : Bool => k ⟨[(5, rb y2739), (15, rb y2754), (16, rb y2756)], [[], [], []], [], 119⟩) := .trans (by kernel_rfl) (bif_b (bif_b (bind_b fun y2755 => some_b) none_b) none_b)
def a6t (K : Bool → β) : β := (bif y2739 then (bif y2754 then (K y2756) else (K false)) else (K false))
def a2w : Bool := a6t y2739 y2754 y2756 (fun y => y)
theorem b5s (K : Bool → β) : a6t y2739 y2754 y2756 K = K (a2w y2739 y2754 y2756) := (bif_k K (bif_k K rfl rfl) rfl)
theorem b7u : P97 1 C97.r.r.r.r.r.r.r.r.r.r.r.r.r.r.r.r.r ⟨[(5, rb y2739), (15, rb y2754), (16, rb y2756)], [[], [], []], [], 119⟩ k = k ⟨[(4, rb (a2w y2739 y2754 y2756))], [[], [], []], [], 119⟩ := Eq.trans (by kernel_rfl) (b5s y2739 y2754 y2756 (fun y2757 : Bool => k ⟨[(4, rb y2757)], [[], [], []], [], 119⟩))
/-- quilt/quiltlaw06.EvalTwice -/
def a7b : Option Bool := (Option.bind a1x (fun y2739 : Bool => (Option.bind (a2d g_) (fun y2740 : Graph => (Option.bind (a17 y2740) (fun y2741 : ((List I4) × Int) => (bif (a1q y2740 y2741) then (some y2739) else (Option.bind (a7d y2740) (fun y2744 : ((List Int) × Int × Int × Int × Int × Int × Int × Int × Int × Int × (List Int) × (List Int)) => (bif (decide ((y2744.2.2.2.2.2.2.2.2.2.2.1.length : Int) > 500)) then (some y2739) else (Option.bind (a6n y2740 y2744) (fun y2745 : (List Node) => (Option.bind (a17 (y2740.1, y2745, (a0m y2740))) (fun y2747 : ((List I4) × Int) => (bif (y2747.2 != 0) then (some y2739) else (Option.bind (a6p l_ y2740 y2745) (fun y2750 : ((List (List Int)) × Int) => (bif (a1n y2750) then (some false) else (Option.bind (a6r y2750) (fun y2754 : Bool => (Option.bind (a6s y2750) (fun y2756 : Bool => (some (a2w y2739 y2754 y2756))))))))))))))))))))))))
theorem a92 : stepS E cp92 ce4 4 [rA a01 g_, rl (.one (.int .i8)) l_] = Option.bind (a7b g_ l_) (fun y : Bool => some (rb y : R)) := by
  refine .trans ?_ (bind_b fun y2739 => (bind_b fun y2740 => (bind_b fun y2741 => (bif_b some_b (bind_b fun y2744 => (bif_b some_b (bind_b fun y2745 => (bind_b fun y2747 => (bif_b some_b (bind_b fun y2750 => (bif_b some_b (bind_b fun y2754 => (bind_b fun y2756 => some_b)))))))))))))
  refine (stepG_is (nt := 119) (regs := [(0, rA a01 g_), (1, rl (.one (.int .i8)) l_)])).trans ?_
  refine (pre2 (b9d g_ l_ _)).trans (bind_g fun y2739 => ?_)
  refine (pre1 (b9e g_ l_ y2739 _)).trans (bind_g fun y2740 => ?_)
  refine (pre1 (b9f l_ y2739 y2740 _)).trans (bind_g fun y2741 => ?_)
  refine .trans seq_push ?_
  refine (pre1 (b9g l_ y2739 y2740 y2741 _)).trans ?_
  refine (cond_e (b := (a1q y2740 y2741)) (st' := (S97_1 l_ y2739 y2740)) ).trans (bif_g ?_ ?_)
  · refine (pre1 (b9c l_ y2739 y2740 _)).trans ?_
    refine (ret_eq).trans ?_
    refine seqC_ret.trans ?_
    kernel_rfl
  · refine (skip_eq).trans ?_
    refine (seqC_normal (st' := (S97_1 l_ y2739 y2740))).trans ?_
    refine (pre2 (b9h l_ y2739 y2740 _)).trans (bind_g fun y2744 => ?_)
    refine .trans seq_push ?_
    refine (pre1 (b1u l_ y2739 y2740 y2744 _)).trans ?_
    refine (cond_e (b := (decide ((y2744.2.2.2.2.2.2.2.2.2.2.1.length : Int) > 500))) (st' := (S97_3 l_ y2739 y2740 y2744)) ).trans (bif_g ?_ ?_)
    · refine (pre1 (b6j l_ y2739 y2740 y2744 _)).trans ?_
      refine (ret_eq).trans ?_
      refine seqC_ret.trans ?_
      kernel_rfl
    · refine (skip_eq).trans ?_
      refine (seqC_normal (st' := (S97_3 l_ y2739 y2740 y2744))).trans ?_
      refine (pre1 (b7n l_ y2739 y2740 y2744 _)).trans (bind_g fun y2745 => ?_)
      refine (pre2 (b7o l_ y2739 y2740 y2745 _)).trans ?_
      refine (pre1 (b7p l_ y2739 y2740 y2745 _)).trans (bind_g fun y2747 => ?_)
      refine .trans seq_push ?_
      refine (pre1 (b1v l_ y2739 y2740 y2745 y2747 _)).trans ?_
      refine (cond_e (b := (y2747.2 != 0)) (st' := (S97_5 l_ y2739 y2740 y2745)) ).trans (bif_g ?_ ?_)
      · refine (pre1 (b6k l_ y2739 y2740 y2745 _)).trans ?_
        refine (ret_eq).trans ?_
        refine seqC_ret.trans ?_
        kernel_rfl
      · refine (skip_eq).trans ?_
        refine (seqC_normal (st' := (S97_5 l_ y2739 y2740 y2745))).trans ?_
        refine (pre1 (b7q l_ y2739 y2740 y2745 _)).trans (bind_g fun y2750 => ?_)
        refine .trans seq_push ?_
        refine (pre1 (b7r y2739 y2750 _)).trans ?_
        refine (cond_e (b := (a1n y2750)) (st' := (S97_8 y2739 y2750)) ).trans (bif_g ?_ ?_)
        · refine (pre1 (b6l y2739 y2750 _)).trans ?_
          refine (ret_eq).trans ?_
          refine seqC_ret.trans ?_
          kernel_rfl
        · refine (skip_eq).trans ?_
          refine (seqC_normal (st' := (S97_8 y2739 y2750))).trans ?_
          refine (pre1 (b7s y2739 y2750 _)).trans (bind_g fun y2754 => ?_)
          refine (pre1 (b7t y2739 y2750 y2754 _)).trans (bind_g fun y2756 => ?_)
          refine (pre1 (b7u y2739 y2754 y2756 _)).trans ?_
          refine (ret_eq).trans ?_
          kernel_rfl
noncomputable def cp94 : CallP := withC cp92 4 [(.agg a01), (.one (.g (.sl (.one (.int .i8)))))] (.one pB) (fun y : Bool => y) (fun x => a7b x.1 x.2.1)
theorem e6l : PureOK E cp94 := conS eok b0n a0o fun x => Eq.mp (by kernel_rfl) (a92 x.1 x.2.1)
theorem e2e (ht : a7b g_ l_ = some true) (w : World) (vs : List Value) (hrd : ∀ γ : Gh, Free γ → rdRs w γ [argR true a01 g_, argR false (.one (.sl (.one (.int .i8)))) l_] vs) : Calls E.P 4 vs.toArray w fun e w' => e = .returned (.bool true) ∧ Below w.heap.size w w' :=
  walk_true (E := E) (stepS_ok eok b0n a0o) (show stepS E cp92 ce4 4 [rA a01 g_, rl (.one (.int .i8)) l_] = some (.one (.g .bool true)) from by rw [a92, ht]; rfl) w fun γ hγ => Eq.mp (by kernel_rfl) (hrd γ hγ)
end
end Go.V.P
