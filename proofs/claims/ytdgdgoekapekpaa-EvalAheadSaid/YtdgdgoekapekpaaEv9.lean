/- What functions compute. -/
import Derived.Test.YtdgdgoekapekpaaEv8
namespace Go.V.P
open Go.RowKit Go.V Go.Proofs
set_option linter.unusedVariables false
set_option maxRecDepth 100000
section
variable {α β : Type} (g_ : Graph) (l_ : (List Int)) (y1810 : Bool) (y1909 : Graph) (y2376 : ((List I4) × Int)) (y2659 : (List (List Int))) (y2660 : ((List (List Int)) × Int)) (s2702 : Int) (y2706 : Bool) (y2711 : (List Node)) (y2712 : ((List (List Int)) × Int)) (k : St → Option α) (q : Kont α)
noncomputable abbrev C96 := codeOf E.P 3
noncomputable abbrev P96 := @preK α E 3 cp92 ce4
noncomputable abbrev R96 := @runCode α E 3 cp92 ce4
noncomputable abbrev Q96 := @seqC α E 3 cp92 ce4
abbrev S96_0 : St := ⟨[(1, rl (.one (.int .i8)) l_), (2, rF 0), (5, rb y1810)], [(a01.leaves g_)], [], 114⟩
theorem b96 : P96 2 C96 ⟨[(0, rA a01 g_), (1, rl (.one (.int .i8)) l_)], [], [], 114⟩ k = Option.bind a1x fun y1810 : Bool => k (S96_0 g_ l_ y1810) := by kernel_rfl
abbrev S96_1 : St := ⟨[(1, rl (.one (.int .i8)) l_), (2, rF 0), (5, rb y1810)], [(a01.leaves y1909)], [], 114⟩
theorem b97 : P96 1 C96.r.r (S96_0 g_ l_ y1810) k = Option.bind (a2d g_) fun y1909 : Graph => k (S96_1 l_ y1810 y1909) := by kernel_rfl
abbrev S96_2 : St := ⟨[(1, rl (.one (.int .i8)) l_), (2, rF 0), (5, rb y1810), (6, rO tsI4 y2376.1 6), (7, ri y2376.2)], [(a01.leaves y1909)], [], 114⟩
theorem b98 : P96 1 C96.r.r.r (S96_1 l_ y1810 y1909) k = Option.bind (a17 y1909) fun y2376 : ((List I4) × Int) => k (S96_2 l_ y1810 y1909 y2376) := by kernel_rfl
theorem b1n : P96 1 C96.r.r.r.r.l (S96_2 l_ y1810 y1909 y2376) k = k ⟨[(1, rl (.one (.int .i8)) l_), (2, rF 0), (5, rb y1810), (6, rO tsI4 y2376.1 6), (25, rb (y2376.2 != 0))], [(a01.leaves y1909)], [], 114⟩ := by kernel_rfl
abbrev S96_3 : St := ⟨[(1, rl (.one (.int .i8)) l_), (2, rF 0), (5, rb y1810), (6, rO tsI4 y2376.1 6)], [(a01.leaves y1909)], [], 114⟩
theorem b95 : P96 1 C96.r.r.r.r.l.r.t (S96_3 l_ y1810 y1909 y2376) k = k ⟨[(4, rb y1810)], [[]], [], 114⟩ := by kernel_rfl
abbrev S96_4 : St := ⟨[(2, rF 0), (5, rb y1810), (6, rO tsI4 y2376.1 6), (8, .one (.ow (.one (.sl (.one (.int .i8)))) y2659 (.v 8)))], [(a01.leaves y1909)], [], 114⟩
theorem b99 : P96 1 C96.r.r.r.r.r (S96_3 l_ y1810 y1909 y2376) k = Option.bind (a2y y1909 l_) fun y2659 : (List (List Int)) => k (S96_4 y1810 y1909 y2376 y2659) := by kernel_rfl
abbrev S96_5 : St := ⟨[(2, rF 0), (5, rb y1810), (6, rO tsI4 y2376.1 6), (8, .one (.ow (.one (.sl (.one (.int .i8)))) y2659 (.v 8))), (9, .one (.ow (.one (.sl (.one (.int .i8)))) y2660.1 (.v 9))), (10, ri y2660.2)], [(a01.leaves y1909)], [], 114⟩
theorem b9a : P96 1 C96.r.r.r.r.r.r (S96_4 y1810 y1909 y2376 y2659) k = Option.bind (a4f y1909 y2659) fun y2660 : ((List (List Int)) × Int) => k (S96_5 y1810 y1909 y2376 y2659 y2660) := by kernel_rfl
def a7a (K : Bool → β) : β := (bif (y2660.2 != 0) then (K true) else (K ((y2660.1.length : Int) != (y2376.1.length : Int))))
def a1p : Bool := a7a y2376 y2660 (fun y => y)
theorem b6i (K : Bool → β) : a7a y2376 y2660 K = K (a1p y2376 y2660) := (bif_k K rfl rfl)
theorem b9b : P96 1 C96.r.r.r.r.r.r.r.l (S96_5 y1810 y1909 y2376 y2659 y2660) k = k ⟨[(2, rF 0), (5, rb y1810), (6, rO tsI4 y2376.1 6), (8, .one (.ow (.one (.sl (.one (.int .i8)))) y2659 (.v 8))), (9, .one (.ow (.one (.sl (.one (.int .i8)))) y2660.1 (.v 9))), (44, rb (a1p y2376 y2660))], [(a01.leaves y1909)], [], 114⟩ := Eq.trans (by kernel_rfl) (b6i y2376 y2660 (fun y2662 : Bool => k ⟨[(2, rF 0), (5, rb y1810), (6, rO tsI4 y2376.1 6), (8, .one (.ow (.one (.sl (.one (.int .i8)))) y2659 (.v 8))), (9, .one (.ow (.one (.sl (.one (.int .i8)))) y2660.1 (.v 9))), (44, rb y2662)], [(a01.leaves y1909)], [], 114⟩))
abbrev S96_6 : St := ⟨[(2, rF 0), (5, rb y1810), (6, rO tsI4 y2376.1 6), (8, .one (.ow (.one (.sl (.one (.int .i8)))) y2659 (.v 8))), (9, .one (.ow (.one (.sl (.one (.int .i8)))) y2660.1 (.v 9)))], [(a01.leaves y1909)], [], 114⟩
abbrev S96_7 : St := ⟨[(4, rb false)], [[]], [], 114⟩
theorem b6d : P96 1 C96.r.r.r.r.r.r.r.l.r.t (S96_6 y1810 y1909 y2376 y2659 y2660) k = k S96_7 := by kernel_rfl
abbrev S96_8 : St := ⟨[(2, rF 0), (5, rb y1810), (6, rO tsI4 y2376.1 6), (8, .one (.ow (.one (.sl (.one (.int .i8)))) y2659 (.v 8))), (9, .one (.ow (.one (.sl (.one (.int .i8)))) y2660.1 (.v 9))), (11, ri 0)], [(a01.leaves y1909)], [], 114⟩
theorem b7e : P96 1 C96.r.r.r.r.r.r.r.r.l (S96_6 y1810 y1909 y2376 y2659 y2660) k = k (S96_8 y1810 y1909 y2376 y2659 y2660) := by kernel_rfl
abbrev S96_9 : St := ⟨[(2, rF 0), (5, rb y1810), (6, rO tsI4 y2376.1 6), (8, .one (.ow (.one (.sl (.one (.int .i8)))) y2659 (.v 8))), (9, .one (.ow (.one (.sl (.one (.int .i8)))) y2660.1 (.v 9))), (11, ri s2702)], [(a01.leaves y1909)], [], 114⟩
theorem b6e : P96 1 C96.r.r.r.r.r.r.r.r.l.r.b.b.l (S96_9 y1810 y1909 y2376 y2659 y2660 s2702) k = k ⟨[(2, rF 0), (5, rb y1810), (6, rO tsI4 y2376.1 6), (8, .one (.ow (.one (.sl (.one (.int .i8)))) y2659 (.v 8))), (9, .one (.ow (.one (.sl (.one (.int .i8)))) y2660.1 (.v 9))), (11, ri s2702), (48, rb (decide (s2702 < (y2660.1.length : Int))))], [(a01.leaves y1909)], [], 114⟩ := by kernel_rfl
def a6i : Option Bool := (bif (decide ((0 : Int) ≤ s2702)) then (bif (decide (s2702 < (y2660.1.length : Int))) then (bif (decide ((0 : Int) ≤ s2702)) then (bif (decide (s2702 < (y2376.1.length : Int))) then (some (((gt y2660.1 s2702 []).length : Int) != (a1r ((gt y2376.1 s2702 dI4).1, (gt y2376.1 s2702 dI4).2.1, (gt y2376.1 s2702 dI4).2.2.1)))) else none) else none) else none) else none)
theorem b7i : P96 1 C96.r.r.r.r.r.r.r.r.l.r.b.b.r.l.b.l (S96_9 y1810 y1909 y2376 y2659 y2660 s2702) k = Option.bind (a6i y2376 y2660 s2702) (fun y2704 : Bool => k ⟨[(2, rF 0), (5, rb y1810), (6, rO tsI4 y2376.1 6), (8, .one (.ow (.one (.sl (.one (.int .i8)))) y2659 (.v 8))), (9, .one (.ow (.one (.sl (.one (.int .i8)))) y2660.1 (.v 9))), (11, ri s2702), (62, rb y2704)], [(a01.leaves y1909)], [], 114⟩) := .trans (by kernel_rfl) (bif_b (bif_b (bif_b (bif_b some_b none_b) none_b) none_b) none_b)
theorem b6f : P96 1 C96.r.r.r.r.r.r.r.r.l.r.b.b.r.l.b.l.r.t (S96_9 y1810 y1909 y2376 y2659 y2660 s2702) k = k S96_7 := by kernel_rfl
theorem b1o : P96 1 C96.r.r.r.r.r.r.r.r.l.r.b.b.r.l.b.r (S96_9 y1810 y1909 y2376 y2659 y2660 s2702) k = k ⟨[(2, rF 0), (5, rb y1810), (6, rO tsI4 y2376.1 6), (8, .one (.ow (.one (.sl (.one (.int .i8)))) y2659 (.v 8))), (9, .one (.ow (.one (.sl (.one (.int .i8)))) y2660.1 (.v 9))), (11, ri s2702), (66, rb (decide (s2702 < (y2659.length : Int))))], [(a01.leaves y1909)], [], 114⟩ := by kernel_rfl
def a6j : Option Bool := (bif (decide ((0 : Int) ≤ s2702)) then (bif (decide (s2702 < (y2660.1.length : Int))) then (bif (decide ((0 : Int) ≤ s2702)) then (bif (decide (s2702 < (y2659.length : Int))) then (Option.bind (a2f (gt y2660.1 s2702 []) (gt y2659 s2702 [])) (fun y2705 : Bool => (some y2705))) else none) else none) else none) else none)
abbrev e3u : St := ⟨[(2, rF 0), (5, rb y1810), (6, rO tsI4 y2376.1 6), (8, .one (.ow (.one (.sl (.one (.int .i8)))) y2659 (.v 8))), (9, .one (.ow (.one (.sl (.one (.int .i8)))) y2660.1 (.v 9))), (11, ri s2702), (12, rb y2706)], [(a01.leaves y1909)], [], 114⟩
theorem b7j : P96 1 C96.r.r.r.r.r.r.r.r.l.r.b.b.r.l.b.r.r.t (S96_9 y1810 y1909 y2376 y2659 y2660 s2702) k = Option.bind (a6j y2659 y2660 s2702) (fun y2706 : Bool => k (e3u y1810 y1909 y2376 y2659 y2660 s2702 y2706)) := .trans (by kernel_rfl) (bif_b (bif_b (bif_b (bif_b (bind_b fun y2705 => some_b) none_b) none_b) none_b) none_b)
theorem b1p : P96 1 C96.r.r.r.r.r.r.r.r.l.r.b.b.r.l.b.r.r.t.r (e3u y1810 y1909 y2376 y2659 y2660 s2702 y2706) k = k ⟨[(2, rF 0), (5, rb y1810), (6, rO tsI4 y2376.1 6), (8, .one (.ow (.one (.sl (.one (.int .i8)))) y2659 (.v 8))), (9, .one (.ow (.one (.sl (.one (.int .i8)))) y2660.1 (.v 9))), (11, ri s2702), (77, rb (!y2706))], [(a01.leaves y1909)], [], 114⟩ := by kernel_rfl
theorem b6g : P96 1 C96.r.r.r.r.r.r.r.r.l.r.b.b.r.l.b.r.r.t.r.r.t (S96_9 y1810 y1909 y2376 y2659 y2660 s2702) k = k S96_7 := by kernel_rfl
def a6h : Option (Unit ⊕ Unit) := (Option.bind (a6i y2376 y2660 s2702) (fun y2704 : Bool => (bif y2704 then (some (Sum.inr ())) else (bif (decide (s2702 < (y2659.length : Int))) then (Option.bind (a6j y2659 y2660 s2702) (fun y2706 : Bool => (bif (!y2706) then (some (Sum.inr ())) else (some (Sum.inl ()))))) else (some (Sum.inl ()))))))
theorem b7f : R96 C96.r.r.r.r.r.r.r.r.l.r.b.b.r.l (S96_9 y1810 y1909 y2376 y2659 y2660 s2702) (Q96 C96.r.r.r.r.r.r.r.r.l.r.b.b.r.r q) = Option.bind (a6h y2376 y2659 y2660 s2702) (either (fun y2707 : Unit => R96 C96.r.r.r.r.r.r.r.r.l.r.b.b.r.r (S96_9 y1810 y1909 y2376 y2659 y2660 s2702) q) (fun y2708 : Unit => q .ret S96_7)) := by
  refine .trans ?_ (bind_b fun y2704 => (bif_b e2_1 (bif_b (bind_b fun y2706 => (bif_b e2_1 e2_0)) e2_0)))
  refine (block_push (id := 1)).trans ?_
  refine .trans seq_push ?_
  refine (pre1 (b7i y1810 y1909 y2376 y2659 y2660 s2702 _)).trans (bind_g fun y2704 => ?_)
  refine (cond_e (b := y2704) (st' := (S96_9 y1810 y1909 y2376 y2659 y2660 s2702)) ).trans (bif_g ?_ ?_)
  · refine (pre1 (b6f y1810 y1909 y2376 y2659 y2660 s2702 _)).trans ?_
    refine (ret_eq).trans ?_
    refine seqC_ret.trans ?_
    refine block_ret.trans ?_
    refine seqC_ret.trans ?_
    kernel_rfl
  · refine (skip_eq).trans ?_
    refine (seqC_normal (st' := (S96_9 y1810 y1909 y2376 y2659 y2660 s2702))).trans ?_
    refine (pre1 (b1o y1810 y1909 y2376 y2659 y2660 s2702 _)).trans ?_
    refine (cond_e (b := (decide (s2702 < (y2659.length : Int)))) (st' := (S96_9 y1810 y1909 y2376 y2659 y2660 s2702)) ).trans (bif_g ?_ ?_)
    · refine (pre1 (b7j y1810 y1909 y2376 y2659 y2660 s2702 _)).trans (bind_g fun y2706 => ?_)
      refine (pre1 (b1p y1810 y1909 y2376 y2659 y2660 s2702 y2706 _)).trans ?_
      refine (cond_e (b := (!y2706)) (st' := (S96_9 y1810 y1909 y2376 y2659 y2660 s2702)) ).trans (bif_g ?_ ?_)
      · refine (pre1 (b6g y1810 y1909 y2376 y2659 y2660 s2702 _)).trans ?_
        refine (ret_eq).trans ?_
        refine block_ret.trans ?_
        refine seqC_ret.trans ?_
        kernel_rfl
      · refine (skip_eq).trans ?_
        refine block_normal.trans ?_
        refine (seqC_normal (st' := (S96_9 y1810 y1909 y2376 y2659 y2660 s2702))).trans ?_
        kernel_rfl
    · refine (skip_eq).trans ?_
      refine block_normal.trans ?_
      refine (seqC_normal (st' := (S96_9 y1810 y1909 y2376 y2659 y2660 s2702))).trans ?_
      kernel_rfl
theorem b7h : R96 C96.r.r.r.r.r.r.r.r.l.r.b.b.r.r (S96_9 y1810 y1909 y2376 y2659 y2660 s2702) q = q .normal ⟨[(2, rF 0), (5, rb y1810), (6, rO tsI4 y2376.1 6), (8, .one (.ow (.one (.sl (.one (.int .i8)))) y2659 (.v 8))), (9, .one (.ow (.one (.sl (.one (.int .i8)))) y2660.1 (.v 9))), (11, ri (IntKind.wrap .i64 (s2702 + 1)))], [(a01.leaves y1909)], [], 114⟩ := by kernel_rfl
def a2v : Option (Int ⊕ (Int ⊕ Unit)) := (bif (decide (s2702 < (y2660.1.length : Int))) then (Option.bind (a6h y2376 y2659 y2660 s2702) (either (fun y2707 : Unit => (some (Sum.inl (IntKind.wrap .i64 (s2702 + 1))))) (fun y2708 : Unit => (some (Sum.inr (Sum.inr ())))))) else (some (Sum.inr (Sum.inl s2702))))
abbrev d7h (y2709 : Int) : St := ⟨[(2, rF 0), (5, rb y1810), (6, rO tsI4 y2376.1 6), (8, .one (.ow (.one (.sl (.one (.int .i8)))) y2659 (.v 8))), (9, .one (.ow (.one (.sl (.one (.int .i8)))) y2660.1 (.v 9))), (11, ri y2709)], [(a01.leaves y1909)], [], 114⟩
theorem b5i : R96 C96.r.r.r.r.r.r.r.r.l.r.b.b (S96_9 y1810 y1909 y2376 y2659 y2660 s2702) (loopKont 1 q) = Option.bind (a2v y2376 y2659 y2660 s2702) (either (fun y : Int => q .normal ⟨[(2, rF 0), (5, rb y1810), (6, rO tsI4 y2376.1 6), (8, .one (.ow (.one (.sl (.one (.int .i8)))) y2659 (.v 8))), (9, .one (.ow (.one (.sl (.one (.int .i8)))) y2660.1 (.v 9))), (11, ri y)], [(a01.leaves y1909)], [], 114⟩) (either (fun y2709 : Int => q (.exit 0) (d7h y1810 y1909 y2376 y2659 y2660 y2709)) (fun y2710 : Unit => q .ret S96_7))) := by
  refine .trans ?_ (bif_b (bind_b (either_b (fun y2707 => e3_0) (fun y2708 => e3_2))) e3_1)
  refine .trans seq_push ?_
  refine (pre1 (b6e y1810 y1909 y2376 y2659 y2660 s2702 _)).trans ?_
  refine (cond_e (b := (decide (s2702 < (y2660.1.length : Int)))) (st' := (S96_9 y1810 y1909 y2376 y2659 y2660 s2702)) ).trans (bif_g ?_ ?_)
  · refine (skip_eq).trans ?_
    refine (seqC_normal (st' := (S96_9 y1810 y1909 y2376 y2659 y2660 s2702))).trans ?_
    refine .trans seq_push ?_
    refine (b7f y1810 y1909 y2376 y2659 y2660 s2702 _).trans (bind_g (either_g (fun y2707 => ?_) (fun y2708 => ?_)))
    · refine (b7h y1810 y1909 y2376 y2659 y2660 s2702 _).trans ?_
      kernel_rfl
    · kernel_rfl
  · refine ((exit_eq (j := 0))).trans ?_
    refine seqC_exit.trans ?_
    kernel_rfl
theorem b7g : R96 C96.r.r.r.r.r.r.r.r.l.r.b (S96_8 y1810 y1909 y2376 y2659 y2660) q = Option.bind (iterN (a2v y2376 y2659 y2660) LL (0 : Int)) (either (fun y2709 : Int => q (.exit 0) (d7h y1810 y1909 y2376 y2659 y2660 y2709)) (fun y2710 : Unit => q .ret S96_7)) :=
  Eq.trans (by kernel_rfl) (loop_iter2 (S := fun s2702 : Int => (S96_9 y1810 y1909 y2376 y2659 y2660 s2702)) (Y1 := fun y2709 : Int => ((.exit 0), (d7h y1810 y1909 y2376 y2659 y2660 y2709))) (Y2 := fun y2710 : Unit => (.ret, S96_7)) (fun s q => b5i y1810 y1909 y2376 y2659 y2660 s q) (fun z => rfl) (fun z => rfl) LL (0 : Int))
abbrev b4v : St := ⟨[(2, rF 0), (5, rb y1810), (8, .one (.ow (.one (.sl (.one (.int .i8)))) y2659 (.v 8))), (9, .one (.ow (.one (.sl (.one (.int .i8)))) y2660.1 (.v 9)))], [(a01.leaves y1909)], [], 114⟩
theorem b1q : P96 1 C96.r.r.r.r.r.r.r.r.r.l (b4v y1810 y1909 y2659 y2660) k = k ⟨[(2, rF 0), (5, rb y1810), (8, .one (.ow (.one (.sl (.one (.int .i8)))) y2659 (.v 8))), (9, .one (.ow (.one (.sl (.one (.int .i8)))) y2660.1 (.v 9))), (81, rb ((y1909.2.1.length : Int) == 0))], [(a01.leaves y1909)], [], 114⟩ := by kernel_rfl
theorem b6h : P96 1 C96.r.r.r.r.r.r.r.r.r.l.r.t (b4v y1810 y1909 y2659 y2660) k = k ⟨[(4, rb y1810)], [[]], [], 114⟩ := by kernel_rfl
def a6k : Option (List Node) := (bif (decide ((0 : Int) ≤ (IntKind.wrap .i64 ((y1909.2.1.length : Int) - 1)))) then (bif (decide ((IntKind.wrap .i64 ((y1909.2.1.length : Int) - 1)) ≤ (y1909.2.1.length : Int))) then (some ((y1909.2.1.take (Int.toNat (IntKind.wrap .i64 ((y1909.2.1.length : Int) - 1)))).drop (Int.toNat (0 : Int)))) else none) else none)
abbrev e3v : St := ⟨[(5, rb y1810), (8, .one (.ow (.one (.sl (.one (.int .i8)))) y2659 (.v 8))), (9, .one (.ow (.one (.sl (.one (.int .i8)))) y2660.1 (.v 9))), (13, rF 1)], [[], [dl tsI4 y1909.1, dl a00 y2711, dl (.one (.int .i64)) y1909.2.2]], [], 114⟩
theorem b7k : P96 2 C96.r.r.r.r.r.r.r.r.r.r (b4v y1810 y1909 y2659 y2660) k = Option.bind (a6k y1909) (fun y2711 : (List Node) => k (e3v y1810 y1909 y2659 y2660 y2711)) := .trans (by kernel_rfl) (bif_b (bif_b some_b none_b) none_b)
abbrev e3w : St := ⟨[(5, rb y1810), (9, .one (.ow (.one (.sl (.one (.int .i8)))) y2660.1 (.v 9))), (14, .one (.ow (.one (.sl (.one (.int .i8)))) y2712.1 (.v 14))), (15, ri y2712.2)], [[], []], [], 114⟩
theorem b7l : P96 2 C96.r.r.r.r.r.r.r.r.r.r.r.r (e3v y1810 y1909 y2659 y2660 y2711) k = Option.bind (a4f (y1909.1, y2711, [(0 : Int)]) y2659) fun y2712 : ((List (List Int)) × Int) => k (e3w y1810 y2660 y2712) := by kernel_rfl
def a6l : Option Bool := (bif y1810 then (bif (y2712.2 == 0) then (bif (decide ((0 : Int) ≤ (IntKind.wrap .i64 ((y2660.1.length : Int) - 1)))) then (bif (decide ((IntKind.wrap .i64 ((y2660.1.length : Int) - 1)) ≤ (y2660.1.length : Int))) then (Option.bind (b6q y2712.1 ((y2660.1.take (Int.toNat (IntKind.wrap .i64 ((y2660.1.length : Int) - 1)))).drop (Int.toNat (0 : Int)))) (fun y2737 : Bool => (some y2737))) else none) else none) else (some false)) else (some false))
theorem b7m : P96 1 C96.r.r.r.r.r.r.r.r.r.r.r.r.r.r (e3w y1810 y2660 y2712) k = Option.bind (a6l y1810 y2660 y2712) (fun y2738 : Bool => k ⟨[(4, rb y2738)], [[], []], [], 114⟩) := .trans (by kernel_rfl) (bif_b (bif_b (bif_b (bif_b (bind_b fun y2737 => some_b) none_b) none_b) some_b) some_b)
/-- quilt/quiltlaw06.EvalAhead -/
def a79 : Option Bool := (Option.bind a1x (fun y1810 : Bool => (Option.bind (a2d g_) (fun y1909 : Graph => (Option.bind (a17 y1909) (fun y2376 : ((List I4) × Int) => (bif (y2376.2 != 0) then (some y1810) else (Option.bind (a2y y1909 l_) (fun y2659 : (List (List Int)) => (Option.bind (a4f y1909 y2659) (fun y2660 : ((List (List Int)) × Int) => (bif (a1p y2376 y2660) then (some false) else (Option.bind (iterN (a2v y2376 y2659 y2660) LL (0 : Int)) (either (fun y2709 : Int => (bif ((y1909.2.1.length : Int) == 0) then (some y1810) else (Option.bind (a6k y1909) (fun y2711 : (List Node) => (Option.bind (a4f (y1909.1, y2711, [(0 : Int)]) y2659) (fun y2712 : ((List (List Int)) × Int) => (Option.bind (a6l y1810 y2660 y2712) (fun y2738 : Bool => (some y2738))))))))) (fun y2710 : Unit => (some false))))))))))))))))
theorem a91 : stepS E cp92 ce4 3 [rA a01 g_, rl (.one (.int .i8)) l_] = Option.bind (a79 g_ l_) (fun y : Bool => some (rb y : R)) := by
  refine .trans ?_ (bind_b fun y1810 => (bind_b fun y1909 => (bind_b fun y2376 => (bif_b some_b (bind_b fun y2659 => (bind_b fun y2660 => (bif_b some_b (bind_b (either_b (fun y2709 => (bif_b some_b (bind_b fun y2711 => (bind_b fun y2712 => (bind_b fun y2738 => some_b))))) (fun y2710 => some_b))))))))))
  refine (stepG_is (nt := 114) (regs := [(0, rA a01 g_), (1, rl (.one (.int .i8)) l_)])).trans ?_
  refine (pre2 (b96 g_ l_ _)).trans (bind_g fun y1810 => ?_)
  refine (pre1 (b97 g_ l_ y1810 _)).trans (bind_g fun y1909 => ?_)
  refine (pre1 (b98 l_ y1810 y1909 _)).trans (bind_g fun y2376 => ?_)
  refine .trans seq_push ?_
  refine (pre1 (b1n l_ y1810 y1909 y2376 _)).trans ?_
  refine (cond_e (b := (y2376.2 != 0)) (st' := (S96_3 l_ y1810 y1909 y2376)) ).trans (bif_g ?_ ?_)
  · refine (pre1 (b95 l_ y1810 y1909 y2376 _)).trans ?_
    refine (ret_eq).trans ?_
    refine seqC_ret.trans ?_
    kernel_rfl
  · refine (skip_eq).trans ?_
    refine (seqC_normal (st' := (S96_3 l_ y1810 y1909 y2376))).trans ?_
    refine (pre1 (b99 l_ y1810 y1909 y2376 _)).trans (bind_g fun y2659 => ?_)
    refine (pre1 (b9a y1810 y1909 y2376 y2659 _)).trans (bind_g fun y2660 => ?_)
    refine .trans seq_push ?_
    refine (pre1 (b9b y1810 y1909 y2376 y2659 y2660 _)).trans ?_
    refine (cond_e (b := (a1p y2376 y2660)) (st' := (S96_6 y1810 y1909 y2376 y2659 y2660)) ).trans (bif_g ?_ ?_)
    · refine (pre1 (b6d y1810 y1909 y2376 y2659 y2660 _)).trans ?_
      refine (ret_eq).trans ?_
      refine seqC_ret.trans ?_
      kernel_rfl
    · refine (skip_eq).trans ?_
      refine (seqC_normal (st' := (S96_6 y1810 y1909 y2376 y2659 y2660))).trans ?_
      refine .trans seq_push ?_
      refine (pre1 (b7e y1810 y1909 y2376 y2659 y2660 _)).trans ?_
      refine (block_push (id := 0)).trans ?_
      refine (b7g y1810 y1909 y2376 y2659 y2660 _).trans (bind_g (either_g (fun y2709 => ?_) (fun y2710 => ?_)))
      · refine block_same.trans ?_
        refine (seqC_normal (st' := (b4v y1810 y1909 y2659 y2660))).trans ?_
        refine .trans seq_push ?_
        refine (pre1 (b1q y1810 y1909 y2659 y2660 _)).trans ?_
        refine (cond_e (b := ((y1909.2.1.length : Int) == 0)) (st' := (b4v y1810 y1909 y2659 y2660)) ).trans (bif_g ?_ ?_)
        · refine (pre1 (b6h y1810 y1909 y2659 y2660 _)).trans ?_
          refine (ret_eq).trans ?_
          refine seqC_ret.trans ?_
          kernel_rfl
        · refine (skip_eq).trans ?_
          refine (seqC_normal (st' := (b4v y1810 y1909 y2659 y2660))).trans ?_
          refine (pre2 (b7k y1810 y1909 y2659 y2660 _)).trans (bind_g fun y2711 => ?_)
          refine (pre2 (b7l y1810 y1909 y2659 y2660 y2711 _)).trans (bind_g fun y2712 => ?_)
          refine (pre1 (b7m y1810 y2660 y2712 _)).trans (bind_g fun y2738 => ?_)
          refine (ret_eq).trans ?_
          kernel_rfl
      · refine block_ret.trans ?_
        refine seqC_ret.trans ?_
        kernel_rfl
noncomputable def cp93 : CallP := withC cp92 3 [(.agg a01), (.one (.g (.sl (.one (.int .i8)))))] (.one pB) (fun y : Bool => y) (fun x => a79 x.1 x.2.1)
theorem e6k : PureOK E cp93 := conS eok b0n a0o fun x => Eq.mp (by kernel_rfl) (a91 x.1 x.2.1)
theorem e2d (ht : a79 g_ l_ = some true) (w : World) (vs : List Value) (hrd : ∀ γ : Gh, Free γ → rdRs w γ [argR true a01 g_, argR false (.one (.sl (.one (.int .i8)))) l_] vs) : Calls E.P 3 vs.toArray w fun e w' => e = .returned (.bool true) ∧ Below w.heap.size w w' :=
  walk_true (E := E) (stepS_ok eok b0n a0o) (show stepS E cp92 ce4 3 [rA a01 g_, rl (.one (.int .i8)) l_] = some (.one (.g .bool true)) from by rw [a91, ht]; rfl) w fun γ hγ => Eq.mp (by kernel_rfl) (hrd γ hγ)
end
end Go.V.P
