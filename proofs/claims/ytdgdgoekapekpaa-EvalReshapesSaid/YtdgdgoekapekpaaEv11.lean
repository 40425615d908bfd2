/- What functions compute. -/
import Derived.Test.YtdgdgoekapekpaaEv8
namespace Go.V.P
open Go.RowKit Go.V Go.Proofs
set_option linter.unusedVariables false
set_option maxRecDepth 100000
section
variable {α β : Type} (g_ : Graph) (l_ : (List Int)) (which : Int) (y2758 : Bool) (y2759 : Graph) (y2760 : ((List I4) × Int)) (y2765 : (List Node)) (y2769 : ((List (List Int)) × Int)) (y2773 : Bool) (y2775 : Bool) (s2795 : Int) (k : St → Option α) (q : Kont α)
noncomputable abbrev C98 := codeOf E.P 6
noncomputable abbrev P98 := @preK α E 6 cp92 ce4
noncomputable abbrev R98 := @runCode α E 6 cp92 ce4
abbrev S98_0 : St := ⟨[(1, rl (.one (.int .i8)) l_), (2, rk .u8 which), (3, rF 0), (7, rb y2758)], [(a01.leaves g_)], [], 167⟩
theorem b5k : P98 2 C98 ⟨[(0, rA a01 g_), (1, rl (.one (.int .i8)) l_), (2, rk .u8 which)], [], [], 167⟩ k = Option.bind a1x fun y2758 : Bool => k (S98_0 g_ l_ which y2758) := by kernel_rfl
abbrev S98_1 : St := ⟨[(1, rl (.one (.int .i8)) l_), (2, rk .u8 which), (3, rF 0), (7, rb y2758)], [(a01.leaves y2759)], [], 167⟩
theorem b5l : P98 1 C98.r.r (S98_0 g_ l_ which y2758) k = Option.bind (a2d g_) fun y2759 : Graph => k (S98_1 l_ which y2758 y2759) := by kernel_rfl
abbrev S98_2 : St := ⟨[(1, rl (.one (.int .i8)) l_), (2, rk .u8 which), (3, rF 0), (7, rb y2758), (8, rO tsI4 y2760.1 8), (9, ri y2760.2)], [(a01.leaves y2759)], [], 167⟩
theorem b5m : P98 1 C98.r.r.r (S98_1 l_ which y2758 y2759) k = Option.bind (a17 y2759) fun y2760 : ((List I4) × Int) => k (S98_2 l_ which y2758 y2759 y2760) := by kernel_rfl
def a56 (K : Bool → β) : β := (bif (y2760.2 != 0) then (K true) else (K (decide ((IntKind.wrap .i64 ((y2759.2.1.length : Int) + 3)) > 12))))
def a1j : Bool := a56 y2759 y2760 (fun y => y)
theorem b2y (K : Bool → β) : a56 y2759 y2760 K = K (a1j y2759 y2760) := (bif_k K rfl rfl)
theorem b5n : P98 1 C98.r.r.r.r.l (S98_2 l_ which y2758 y2759 y2760) k = k ⟨[(1, rl (.one (.int .i8)) l_), (2, rk .u8 which), (3, rF 0), (7, rb y2758), (8, rO tsI4 y2760.1 8), (36, rb (a1j y2759 y2760))], [(a01.leaves y2759)], [], 167⟩ := Eq.trans (by kernel_rfl) (b2y y2759 y2760 (fun y2762 : Bool => k ⟨[(1, rl (.one (.int .i8)) l_), (2, rk .u8 which), (3, rF 0), (7, rb y2758), (8, rO tsI4 y2760.1 8), (36, rb y2762)], [(a01.leaves y2759)], [], 167⟩))
abbrev S98_3 : St := ⟨[(1, rl (.one (.int .i8)) l_), (2, rk .u8 which), (3, rF 0), (7, rb y2758), (8, rO tsI4 y2760.1 8)], [(a01.leaves y2759)], [], 167⟩
theorem b5j : P98 1 C98.r.r.r.r.l.r.t (S98_3 l_ which y2758 y2759 y2760) k = k ⟨[(6, rb y2758)], [[]], [], 167⟩ := by kernel_rfl
def a57 : Option Unit := (bif ((y2760.1.length : Int) == 0) then none else (some ()))
abbrev S98_4 : St := ⟨[(1, rl (.one (.int .i8)) l_), (3, rF 0), (7, rb y2758), (8, rO tsI4 y2760.1 8), (10, ri (Int.tmod (IntKind.wrap .i64 which) (y2760.1.length : Int)))], [(a01.leaves y2759)], [], 167⟩
theorem b5o : P98 1 C98.r.r.r.r.r (S98_3 l_ which y2758 y2759 y2760) k = Option.bind (a57 y2760) (fun y2763 : Unit => k (S98_4 l_ which y2758 y2759 y2760)) := .trans (by kernel_rfl) (bif_b none_b some_b)
def a58 : Option Unit := (bif (decide ((0 : Int) ≤ (Int.tmod (IntKind.wrap .i64 which) (y2760.1.length : Int)))) then (bif (decide ((Int.tmod (IntKind.wrap .i64 which) (y2760.1.length : Int)) < (y2760.1.length : Int))) then (some ()) else none) else none)
abbrev S98_5 : St := ⟨[(1, rl (.one (.int .i8)) l_), (3, rF 0), (7, rb y2758), (8, rO tsI4 y2760.1 8), (10, ri (Int.tmod (IntKind.wrap .i64 which) (y2760.1.length : Int))), (11, rF 1)], [(a01.leaves y2759), (tsI4.leaves (gt y2760.1 (Int.tmod (IntKind.wrap .i64 which) (y2760.1.length : Int)) dI4))], [], 167⟩
theorem b5p : P98 1 C98.r.r.r.r.r.r (S98_4 l_ which y2758 y2759 y2760) k = Option.bind (a58 which y2760) (fun y2764 : Unit => k (S98_5 l_ which y2758 y2759 y2760)) := .trans (by kernel_rfl) (bif_b (bif_b some_b none_b) none_b)
def a4k : Option (List Node) := (bif (decide (([] : List Node).length + y2759.2.1.length ≤ maxL)) then (bif (decide (([] ++ y2759.2.1).length + ([((11 : Int), [(Int.tmod (IntKind.wrap .i64 which) (y2760.1.length : Int))], (0 : Int), (0 : Int), (0 : Int), (0 : Int), (1 : Int), (0 : Int), (gt y2760.1 (Int.tmod (IntKind.wrap .i64 which) (y2760.1.length : Int)) dI4).2.2.2, (gt y2760.1 (Int.tmod (IntKind.wrap .i64 which) (y2760.1.length : Int)) dI4).2.1, (gt y2760.1 (Int.tmod (IntKind.wrap .i64 which) (y2760.1.length : Int)) dI4).1, (gt y2760.1 (Int.tmod (IntKind.wrap .i64 which) (y2760.1.length : Int)) dI4).2.2.1, [], []), ((11 : Int), [(y2760.1.length : Int)], (0 : Int), (0 : Int), (0 : Int), (0 : Int), (1 : Int), (0 : Int), (gt y2760.1 (Int.tmod (IntKind.wrap .i64 which) (y2760.1.length : Int)) dI4).2.2.2, (gt y2760.1 (Int.tmod (IntKind.wrap .i64 which) (y2760.1.length : Int)) dI4).1, (gt y2760.1 (Int.tmod (IntKind.wrap .i64 which) (y2760.1.length : Int)) dI4).2.1, (gt y2760.1 (Int.tmod (IntKind.wrap .i64 which) (y2760.1.length : Int)) dI4).2.2.1, [], []), ((8 : Int), [(IntKind.wrap .i64 ((y2760.1.length : Int) + 1))], (0 : Int), (0 : Int), (0 : Int), (0 : Int), (1 : Int), (0 : Int), (gt y2760.1 (Int.tmod (IntKind.wrap .i64 which) (y2760.1.length : Int)) dI4).2.2.2, (0 : Int), (0 : Int), (0 : Int), [], [])] : List Node).length ≤ maxL)) then (some (([] ++ y2759.2.1) ++ [((11 : Int), [(Int.tmod (IntKind.wrap .i64 which) (y2760.1.length : Int))], (0 : Int), (0 : Int), (0 : Int), (0 : Int), (1 : Int), (0 : Int), (gt y2760.1 (Int.tmod (IntKind.wrap .i64 which) (y2760.1.length : Int)) dI4).2.2.2, (gt y2760.1 (Int.tmod (IntKind.wrap .i64 which) (y2760.1.length : Int)) dI4).2.1, (gt y2760.1 (Int.tmod (IntKind.wrap .i64 which) (y2760.1.length : Int)) dI4).1, (gt y2760.1 (Int.tmod (IntKind.wrap .i64 which) (y2760.1.length : Int)) dI4).2.2.1, [], []), ((11 : Int), [(y2760.1.length : Int)], (0 : Int), (0 : Int), (0 : Int), (0 : Int), (1 : Int), (0 : Int), (gt y2760.1 (Int.tmod (IntKind.wrap .i64 which) (y2760.1.length : Int)) dI4).2.2.2, (gt y2760.1 (Int.tmod (IntKind.wrap .i64 which) (y2760.1.length : Int)) dI4).1, (gt y2760.1 (Int.tmod (IntKind.wrap .i64 which) (y2760.1.length : Int)) dI4).2.1, (gt y2760.1 (Int.tmod (IntKind.wrap .i64 which) (y2760.1.length : Int)) dI4).2.2.1, [], []), ((8 : Int), [(IntKind.wrap .i64 ((y2760.1.length : Int) + 1))], (0 : Int), (0 : Int), (0 : Int), (0 : Int), (1 : Int), (0 : Int), (gt y2760.1 (Int.tmod (IntKind.wrap .i64 which) (y2760.1.length : Int)) dI4).2.2.2, (0 : Int), (0 : Int), (0 : Int), [], [])])) else none) else none)
abbrev S98_6 : St := ⟨[(1, rl (.one (.int .i8)) l_), (7, rb y2758), (10, ri (Int.tmod (IntKind.wrap .i64 which) (y2760.1.length : Int))), (11, rF 1), (12, ri (y2760.1.length : Int)), (14, rF 3)], [[], (tsI4.leaves (gt y2760.1 (Int.tmod (IntKind.wrap .i64 which) (y2760.1.length : Int)) dI4)), [], [dl tsI4 y2759.1, .ow a00 y2765 (.h 3 1), dl (.one (.int .i64)) y2759.2.2]], [], 167⟩
theorem b49 : P98 4 C98.r.r.r.r.r.r.r (S98_5 l_ which y2758 y2759 y2760) k = Option.bind (a4k which y2759 y2760) (fun y2765 : (List Node) => k (S98_6 l_ which y2758 y2759 y2760 y2765)) := .trans (by kernel_rfl) (bif_b (bif_b some_b none_b) none_b)
def a4l (K : (List Int) → β) : β := (K [(Int.tmod (IntKind.wrap .i64 which) (y2760.1.length : Int)), (IntKind.wrap .i64 ((y2760.1.length : Int) + 1)), (IntKind.wrap .i64 ((y2760.1.length : Int) + 2)), (y2760.1.length : Int)])
def a1f : (List Int) := a4l which y2760 (fun y => y)
theorem b1s (K : (List Int) → β) : a4l which y2760 K = K (a1f which y2760) := rfl
abbrev S98_7 : St := ⟨[(1, rl (.one (.int .i8)) l_), (7, rb y2758), (11, rF 1), (14, rF 3)], [[], (tsI4.leaves (gt y2760.1 (Int.tmod (IntKind.wrap .i64 which) (y2760.1.length : Int)) dI4)), [], [dl tsI4 y2759.1, .ow a00 y2765 (.h 3 1), .ow (.one (.int .i64)) (a1f which y2760) (.h 3 2)]], [], 167⟩
theorem b4a : P98 1 C98.r.r.r.r.r.r.r.r.r.r.r (S98_6 l_ which y2758 y2759 y2760 y2765) k = k (S98_7 l_ which y2758 y2759 y2760 y2765) := Eq.trans (by kernel_rfl) (b1s which y2760 (fun y2766 : (List Int) => k ⟨[(1, rl (.one (.int .i8)) l_), (7, rb y2758), (11, rF 1), (14, rF 3)], [[], (tsI4.leaves (gt y2760.1 (Int.tmod (IntKind.wrap .i64 which) (y2760.1.length : Int)) dI4)), [], [dl tsI4 y2759.1, .ow a00 y2765 (.h 3 1), .ow (.one (.int .i64)) y2766 (.h 3 2)]], [], 167⟩))
def a4m : Option ((List (List Int)) × Int) := (Option.bind (a2y (y2759.1, y2765, (a1f which y2760)) l_) (fun y2767 : (List (List Int)) => (Option.bind (a6f (y2759.1, y2765, (a1f which y2760)) y2767) (fun y2768 : ((List (List Int)) × Int) => (some y2768)))))
abbrev S98_8 : St := ⟨[(7, rb y2758), (11, rF 1), (15, .one (.ow (.one (.sl (.one (.int .i8)))) y2769.1 (.v 15))), (16, ri y2769.2)], [[], (tsI4.leaves (gt y2760.1 (Int.tmod (IntKind.wrap .i64 which) (y2760.1.length : Int)) dI4)), [], []], [], 167⟩
theorem b4b : P98 1 C98.r.r.r.r.r.r.r.r.r.r.r.r (S98_7 l_ which y2758 y2759 y2760 y2765) k = Option.bind (a4m l_ which y2759 y2760 y2765) (fun y2769 : ((List (List Int)) × Int) => k (S98_8 which y2758 y2760 y2769)) := .trans (by kernel_rfl) (bind_b fun y2767 => (bind_b fun y2768 => some_b))
def a4n (K : Bool → β) : β := (bif (y2769.2 != 0) then (K true) else (K ((y2769.1.length : Int) != 4)))
def a1g : Bool := a4n y2769 (fun y => y)
theorem b1t (K : Bool → β) : a4n y2769 K = K (a1g y2769) := (bif_k K rfl rfl)
theorem b4c : P98 1 C98.r.r.r.r.r.r.r.r.r.r.r.r.r.l (S98_8 which y2758 y2760 y2769) k = k ⟨[(7, rb y2758), (11, rF 1), (15, .one (.ow (.one (.sl (.one (.int .i8)))) y2769.1 (.v 15))), (108, rb (a1g y2769))], [[], (tsI4.leaves (gt y2760.1 (Int.tmod (IntKind.wrap .i64 which) (y2760.1.length : Int)) dI4)), [], []], [], 167⟩ := Eq.trans (by kernel_rfl) (b1t y2769 (fun y2771 : Bool => k ⟨[(7, rb y2758), (11, rF 1), (15, .one (.ow (.one (.sl (.one (.int .i8)))) y2769.1 (.v 15))), (108, rb y2771)], [[], (tsI4.leaves (gt y2760.1 (Int.tmod (IntKind.wrap .i64 which) (y2760.1.length : Int)) dI4)), [], []], [], 167⟩))
abbrev S98_9 : St := ⟨[(7, rb y2758), (11, rF 1), (15, .one (.ow (.one (.sl (.one (.int .i8)))) y2769.1 (.v 15)))], [[], (tsI4.leaves (gt y2760.1 (Int.tmod (IntKind.wrap .i64 which) (y2760.1.length : Int)) dI4)), [], []], [], 167⟩
abbrev b4w : St := ⟨[(6, rb false)], [[], [], [], []], [], 167⟩
theorem b2u : P98 1 C98.r.r.r.r.r.r.r.r.r.r.r.r.r.l.r.t (S98_9 which y2758 y2760 y2769) k = k b4w := by kernel_rfl
def a4o : Option Bool := (bif (decide ((0 : Int) < (y2769.1.length : Int))) then (bif (decide ((1 : Int) < (y2769.1.length : Int))) then (Option.bind (a2f (gt y2769.1 (0 : Int) []) (gt y2769.1 (1 : Int) [])) (fun y2772 : Bool => (some y2772))) else none) else none)
abbrev e3x : St := ⟨[(7, rb y2758), (11, rF 1), (15, .one (.ow (.one (.sl (.one (.int .i8)))) y2769.1 (.v 15))), (17, rb y2773)], [[], (tsI4.leaves (gt y2760.1 (Int.tmod (IntKind.wrap .i64 which) (y2760.1.length : Int)) dI4)), [], []], [], 167⟩
theorem b4d : P98 1 C98.r.r.r.r.r.r.r.r.r.r.r.r.r.r (S98_9 which y2758 y2760 y2769) k = Option.bind (a4o y2769) (fun y2773 : Bool => k (e3x which y2758 y2760 y2769 y2773)) := .trans (by kernel_rfl) (bif_b (bif_b (bind_b fun y2772 => some_b) none_b) none_b)
def a4p : Option Bool := (bif (decide ((0 : Int) < (y2769.1.length : Int))) then (bif (decide ((3 : Int) < (y2769.1.length : Int))) then (Option.bind (a2f (gt y2769.1 (0 : Int) []) (gt y2769.1 (3 : Int) [])) (fun y2774 : Bool => (some y2774))) else none) else none)
abbrev e3y : St := ⟨[(7, rb y2758), (11, rF 1), (15, .one (.ow (.one (.sl (.one (.int .i8)))) y2769.1 (.v 15))), (17, rb y2773), (18, rb y2775)], [[], (tsI4.leaves (gt y2760.1 (Int.tmod (IntKind.wrap .i64 which) (y2760.1.length : Int)) dI4)), [], []], [], 167⟩
theorem b4e : P98 1 C98.r.r.r.r.r.r.r.r.r.r.r.r.r.r.r (e3x which y2758 y2760 y2769 y2773) k = Option.bind (a4p y2769) (fun y2775 : Bool => k (e3y which y2758 y2760 y2769 y2773 y2775)) := .trans (by kernel_rfl) (bif_b (bif_b (bind_b fun y2774 => some_b) none_b) none_b)
def a4q : Option Bool := (bif (!y2773) then (some true) else (bif (!y2775) then (some true) else (bif (decide ((2 : Int) < (y2769.1.length : Int))) then (bif (decide ((0 : Int) < (y2769.1.length : Int))) then (some (((gt y2769.1 (2 : Int) []).length : Int) != ((gt y2769.1 (0 : Int) []).length : Int))) else none) else none)))
theorem b4f : P98 1 C98.r.r.r.r.r.r.r.r.r.r.r.r.r.r.r.r.l (e3y which y2758 y2760 y2769 y2773 y2775) k = Option.bind (a4q y2769 y2773 y2775) (fun y2777 : Bool => k ⟨[(7, rb y2758), (11, rF 1), (15, .one (.ow (.one (.sl (.one (.int .i8)))) y2769.1 (.v 15))), (139, rb y2777)], [[], (tsI4.leaves (gt y2760.1 (Int.tmod (IntKind.wrap .i64 which) (y2760.1.length : Int)) dI4)), [], []], [], 167⟩) := .trans (by kernel_rfl) (bif_b some_b (bif_b some_b (bif_b (bif_b some_b none_b) none_b)))
theorem b2v : P98 1 C98.r.r.r.r.r.r.r.r.r.r.r.r.r.r.r.r.l.r.t (S98_9 which y2758 y2760 y2769) k = k b4w := by kernel_rfl
abbrev e3z : St := ⟨[(7, rb y2758), (11, rF 1), (15, .one (.ow (.one (.sl (.one (.int .i8)))) y2769.1 (.v 15))), (19, ri 0)], [[], (tsI4.leaves (gt y2760.1 (Int.tmod (IntKind.wrap .i64 which) (y2760.1.length : Int)) dI4)), [], []], [], 167⟩
theorem b47 : P98 1 C98.r.r.r.r.r.r.r.r.r.r.r.r.r.r.r.r.r.l (S98_9 which y2758 y2760 y2769) k = k (e3z which y2758 y2760 y2769) := by kernel_rfl
def a4r : Option Unit := (bif (decide ((2 : Int) < (y2769.1.length : Int))) then (some ()) else none)
abbrev a5n : St := ⟨[(7, rb y2758), (11, rF 1), (15, .one (.ow (.one (.sl (.one (.int .i8)))) y2769.1 (.v 15))), (19, ri s2795)], [[], (tsI4.leaves (gt y2760.1 (Int.tmod (IntKind.wrap .i64 which) (y2760.1.length : Int)) dI4)), [], []], [], 167⟩
theorem b4g : P98 1 C98.r.r.r.r.r.r.r.r.r.r.r.r.r.r.r.r.r.l.r.b.b.l (a5n which y2758 y2760 y2769 s2795) k = Option.bind (a4r y2769) (fun y2797 : Unit => k ⟨[(7, rb y2758), (11, rF 1), (15, .one (.ow (.one (.sl (.one (.int .i8)))) y2769.1 (.v 15))), (19, ri s2795), (145, rb (decide (s2795 < ((gt y2769.1 (2 : Int) []).length : Int))))], [[], (tsI4.leaves (gt y2760.1 (Int.tmod (IntKind.wrap .i64 which) (y2760.1.length : Int)) dI4)), [], []], [], 167⟩) := .trans (by kernel_rfl) (bif_b some_b none_b)
def a4s : Option Bool := (bif (decide ((2 : Int) < (y2769.1.length : Int))) then (bif (decide ((0 : Int) ≤ s2795)) then (bif (decide (s2795 < ((gt y2769.1 (2 : Int) []).length : Int))) then (bif (decide ((0 : Int) < (y2769.1.length : Int))) then (bif (decide ((0 : Int) ≤ s2795)) then (bif (decide (s2795 < ((gt y2769.1 (0 : Int) []).length : Int))) then (some ((IntKind.wrap .i64 (gt (gt y2769.1 (2 : Int) []) s2795 (0 : Int))) != (max (IntKind.wrap .i64 (gt (gt y2769.1 (0 : Int) []) s2795 (0 : Int))) ((gt y2760.1 (Int.tmod (IntKind.wrap .i64 which) (y2760.1.length : Int)) dI4).2.2.2)))) else none) else none) else none) else none) else none) else none)
theorem b4i : P98 1 C98.r.r.r.r.r.r.r.r.r.r.r.r.r.r.r.r.r.l.r.b.b.r.l.b (a5n which y2758 y2760 y2769 s2795) k = Option.bind (a4s which y2760 y2769 s2795) (fun y2799 : Bool => k ⟨[(7, rb y2758), (11, rF 1), (15, .one (.ow (.one (.sl (.one (.int .i8)))) y2769.1 (.v 15))), (19, ri s2795), (165, rb y2799)], [[], (tsI4.leaves (gt y2760.1 (Int.tmod (IntKind.wrap .i64 which) (y2760.1.length : Int)) dI4)), [], []], [], 167⟩) := .trans (by kernel_rfl) (bif_b (bif_b (bif_b (bif_b (bif_b (bif_b some_b none_b) none_b) none_b) none_b) none_b) none_b)
theorem b2w : P98 1 C98.r.r.r.r.r.r.r.r.r.r.r.r.r.r.r.r.r.l.r.b.b.r.l.b.r.t (a5n which y2758 y2760 y2769 s2795) k = k b4w := by kernel_rfl
theorem b4h : R98 C98.r.r.r.r.r.r.r.r.r.r.r.r.r.r.r.r.r.l.r.b.b.r.r (a5n which y2758 y2760 y2769 s2795) q = q .normal ⟨[(7, rb y2758), (11, rF 1), (15, .one (.ow (.one (.sl (.one (.int .i8)))) y2769.1 (.v 15))), (19, ri (IntKind.wrap .i64 (s2795 + 1)))], [[], (tsI4.leaves (gt y2760.1 (Int.tmod (IntKind.wrap .i64 which) (y2760.1.length : Int)) dI4)), [], []], [], 167⟩ := by kernel_rfl
def a1y : Option (Int ⊕ (Int ⊕ Unit)) := (Option.bind (a4r y2769) (fun y2797 : Unit => (bif (decide (s2795 < ((gt y2769.1 (2 : Int) []).length : Int))) then (Option.bind (a4s which y2760 y2769 s2795) (fun y2799 : Bool => (bif y2799 then (some (Sum.inr (Sum.inr ()))) else (some (Sum.inl (IntKind.wrap .i64 (s2795 + 1))))))) else (some (Sum.inr (Sum.inl s2795))))))
abbrev d7i (y2800 : Int) : St := ⟨[(7, rb y2758), (11, rF 1), (15, .one (.ow (.one (.sl (.one (.int .i8)))) y2769.1 (.v 15))), (19, ri y2800)], [[], (tsI4.leaves (gt y2760.1 (Int.tmod (IntKind.wrap .i64 which) (y2760.1.length : Int)) dI4)), [], []], [], 167⟩
theorem b1r : R98 C98.r.r.r.r.r.r.r.r.r.r.r.r.r.r.r.r.r.l.r.b.b (a5n which y2758 y2760 y2769 s2795) (loopKont 4 q) = Option.bind (a1y which y2760 y2769 s2795) (either (fun y : Int => q .normal ⟨[(7, rb y2758), (11, rF 1), (15, .one (.ow (.one (.sl (.one (.int .i8)))) y2769.1 (.v 15))), (19, ri y)], [[], (tsI4.leaves (gt y2760.1 (Int.tmod (IntKind.wrap .i64 which) (y2760.1.length : Int)) dI4)), [], []], [], 167⟩) (either (fun y2800 : Int => q (.exit 0) (d7i which y2758 y2760 y2769 y2800)) (fun y2801 : Unit => q .ret b4w))) := by
  refine .trans ?_ (bind_b fun y2797 => (bif_b (bind_b fun y2799 => (bif_b e3_2 e3_0)) e3_1))
  refine .trans seq_push ?_
  refine (pre1 (b4g which y2758 y2760 y2769 s2795 _)).trans (bind_g fun y2797 => ?_)
  refine (cond_e (b := (decide (s2795 < ((gt y2769.1 (2 : Int) []).length : Int)))) (st' := (a5n which y2758 y2760 y2769 s2795)) ).trans (bif_g ?_ ?_)
  · refine (skip_eq).trans ?_
    refine (seqC_normal (st' := (a5n which y2758 y2760 y2769 s2795))).trans ?_
    refine .trans seq_push ?_
    refine (block_push (id := 1)).trans ?_
    refine (pre1 (b4i which y2758 y2760 y2769 s2795 _)).trans (bind_g fun y2799 => ?_)
    refine (cond_e (b := y2799) (st' := (a5n which y2758 y2760 y2769 s2795)) ).trans (bif_g ?_ ?_)
    · refine (pre1 (b2w which y2758 y2760 y2769 s2795 _)).trans ?_
      refine (ret_eq).trans ?_
      refine block_ret.trans ?_
      refine seqC_ret.trans ?_
      kernel_rfl
    · refine (skip_eq).trans ?_
      refine block_normal.trans ?_
      refine (seqC_normal (st' := (a5n which y2758 y2760 y2769 s2795))).trans ?_
      refine (b4h which y2758 y2760 y2769 s2795 _).trans ?_
      kernel_rfl
  · refine ((exit_eq (j := 0))).trans ?_
    refine seqC_exit.trans ?_
    kernel_rfl
theorem b48 : R98 C98.r.r.r.r.r.r.r.r.r.r.r.r.r.r.r.r.r.l.r.b (e3z which y2758 y2760 y2769) q = Option.bind (iterN (a1y which y2760 y2769) LL (0 : Int)) (either (fun y2800 : Int => q (.exit 0) (d7i which y2758 y2760 y2769 y2800)) (fun y2801 : Unit => q .ret b4w)) :=
  Eq.trans (by kernel_rfl) (loop_iter2 (S := fun s2795 : Int => (a5n which y2758 y2760 y2769 s2795)) (Y1 := fun y2800 : Int => ((.exit 0), (d7i which y2758 y2760 y2769 y2800))) (Y2 := fun y2801 : Unit => (.ret, b4w)) (fun s q => b1r which y2758 y2760 y2769 s q) (fun z => rfl) (fun z => rfl) LL (0 : Int))
abbrev e40 : St := ⟨[(7, rb y2758)], [[], (tsI4.leaves (gt y2760.1 (Int.tmod (IntKind.wrap .i64 which) (y2760.1.length : Int)) dI4)), [], []], [], 167⟩
theorem b2x : P98 1 C98.r.r.r.r.r.r.r.r.r.r.r.r.r.r.r.r.r.r (e40 which y2758 y2760) k = k ⟨[(6, rb y2758)], [[], (tsI4.leaves (gt y2760.1 (Int.tmod (IntKind.wrap .i64 which) (y2760.1.length : Int)) dI4)), [], []], [], 167⟩ := by kernel_rfl
/-- quilt/quiltlaw06.EvalReshapes -/
def a4j : Option Bool := (Option.bind a1x (fun y2758 : Bool => (Option.bind (a2d g_) (fun y2759 : Graph => (Option.bind (a17 y2759) (fun y2760 : ((List I4) × Int) => (bif (a1j y2759 y2760) then (some y2758) else (Option.bind (a57 y2760) (fun y2763 : Unit => (Option.bind (a58 which y2760) (fun y2764 : Unit => (Option.bind (a4k which y2759 y2760) (fun y2765 : (List Node) => (Option.bind (a4m l_ which y2759 y2760 y2765) (fun y2769 : ((List (List Int)) × Int) => (bif (a1g y2769) then (some false) else (Option.bind (a4o y2769) (fun y2773 : Bool => (Option.bind (a4p y2769) (fun y2775 : Bool => (Option.bind (a4q y2769 y2773 y2775) (fun y2777 : Bool => (bif y2777 then (some false) else (Option.bind (iterN (a1y which y2760 y2769) LL (0 : Int)) (either (fun y2800 : Int => (some y2758)) (fun y2801 : Unit => (some false)))))))))))))))))))))))))))
theorem a6m : stepS E cp92 ce4 6 [rA a01 g_, rl (.one (.int .i8)) l_, rk .u8 which] = Option.bind (a4j g_ l_ which) (fun y : Bool => some (rb y : R)) := by
  refine .trans ?_ (bind_b fun y2758 => (bind_b fun y2759 => (bind_b fun y2760 => (bif_b some_b (bind_b fun y2763 => (bind_b fun y2764 => (bind_b fun y2765 => (bind_b fun y2769 => (bif_b some_b (bind_b fun y2773 => (bind_b fun y2775 => (bind_b fun y2777 => (bif_b some_b (bind_b (either_b (fun y2800 => some_b) (fun y2801 => some_b))))))))))))))))
  refine (stepG_is (nt := 167) (regs := [(0, rA a01 g_), (1, rl (.one (.int .i8)) l_), (2, rk .u8 which)])).trans ?_
  refine (pre2 (b5k g_ l_ which _)).trans (bind_g fun y2758 => ?_)
  refine (pre1 (b5l g_ l_ which y2758 _)).trans (bind_g fun y2759 => ?_)
  refine (pre1 (b5m l_ which y2758 y2759 _)).trans (bind_g fun y2760 => ?_)
  refine .trans seq_push ?_
  refine (pre1 (b5n l_ which y2758 y2759 y2760 _)).trans ?_
  refine (cond_e (b := (a1j y2759 y2760)) (st' := (S98_3 l_ which y2758 y2759 y2760)) ).trans (bif_g ?_ ?_)
  · refine (pre1 (b5j l_ which y2758 y2759 y2760 _)).trans ?_
    refine (ret_eq).trans ?_
    refine seqC_ret.trans ?_
    kernel_rfl
  · refine (skip_eq).trans ?_
    refine (seqC_normal (st' := (S98_3 l_ which y2758 y2759 y2760))).trans ?_
    refine (pre1 (b5o l_ which y2758 y2759 y2760 _)).trans (bind_g fun y2763 => ?_)
    refine (pre1 (b5p l_ which y2758 y2759 y2760 _)).trans (bind_g fun y2764 => ?_)
    refine (pre (n := 4) (c' := C98.r.r.r.r.r.r.r.r.r.r.r) (by kernel_rfl) (by kernel_rfl) (b49 l_ which y2758 y2759 y2760 _)).trans (bind_g fun y2765 => ?_)
    refine (pre1 (b4a l_ which y2758 y2759 y2760 y2765 _)).trans ?_
    refine (pre1 (b4b l_ which y2758 y2759 y2760 y2765 _)).trans (bind_g fun y2769 => ?_)
    refine .trans seq_push ?_
    refine (pre1 (b4c which y2758 y2760 y2769 _)).trans ?_
    refine (cond_e (b := (a1g y2769)) (st' := (S98_9 which y2758 y2760 y2769)) ).trans (bif_g ?_ ?_)
    · refine (pre1 (b2u which y2758 y2760 y2769 _)).trans ?_
      refine (ret_eq).trans ?_
      refine seqC_ret.trans ?_
      kernel_rfl
    · refine (skip_eq).trans ?_
      refine (seqC_normal (st' := (S98_9 which y2758 y2760 y2769))).trans ?_
      refine (pre1 (b4d which y2758 y2760 y2769 _)).trans (bind_g fun y2773 => ?_)
      refine (pre1 (b4e which y2758 y2760 y2769 y2773 _)).trans (bind_g fun y2775 => ?_)
      refine .trans seq_push ?_
      refine (pre1 (b4f which y2758 y2760 y2769 y2773 y2775 _)).trans (bind_g fun y2777 => ?_)
      refine (cond_e (b := y2777) (st' := (S98_9 which y2758 y2760 y2769)) ).trans (bif_g ?_ ?_)
      · refine (pre1 (b2v which y2758 y2760 y2769 _)).trans ?_
        refine (ret_eq).trans ?_
        refine seqC_ret.trans ?_
        kernel_rfl
      · refine (skip_eq).trans ?_
        refine (seqC_normal (st' := (S98_9 which y2758 y2760 y2769))).trans ?_
        refine .trans seq_push ?_
        refine (pre1 (b47 which y2758 y2760 y2769 _)).trans ?_
        refine (block_push (id := 0)).trans ?_
        refine (b48 which y2758 y2760 y2769 _).trans (bind_g (either_g (fun y2800 => ?_) (fun y2801 => ?_)))
        · refine block_same.trans ?_
          refine (seqC_normal (st' := (e40 which y2758 y2760))).trans ?_
          refine (pre1 (b2x which y2758 y2760 _)).trans ?_
          refine (ret_eq).trans ?_
          kernel_rfl
        · refine block_ret.trans ?_
          refine seqC_ret.trans ?_
          kernel_rfl
noncomputable def cp95 : CallP := withC cp92 6 [(.agg a01), (.one (.g (.sl (.one (.int .i8))))), (.one (.g (.int .u8)))] (.one pB) (fun y : Bool => y) (fun x => a4j x.1 x.2.1 x.2.2.1)
theorem e6m : PureOK E cp95 := conS eok b0n a0o fun x => Eq.mp (by kernel_rfl) (a6m x.1 x.2.1 x.2.2.1)
theorem e11 (ht : a4j g_ l_ which = some true) (w : World) (vs : List Value) (hrd : ∀ γ : Gh, Free γ → rdRs w γ [argR true a01 g_, argR false (.one (.sl (.one (.int .i8)))) l_, argR false (.one (.int .u8)) which] vs) : Calls E.P 6 vs.toArray w fun e w' => e = .returned (.bool true) ∧ Below w.heap.size w w' :=
  walk_true (E := E) (stepS_ok eok b0n a0o) (show stepS E cp92 ce4 6 [rA a01 g_, rl (.one (.int .i8)) l_, rk .u8 which] = some (.one (.g .bool true)) from by rw [a6m, ht]; rfl) w fun γ hγ => Eq.mp (by kernel_rfl) (hrd γ hγ)
end
end Go.V.P
