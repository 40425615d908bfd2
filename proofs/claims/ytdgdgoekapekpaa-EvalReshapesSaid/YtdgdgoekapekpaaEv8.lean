/- What functions compute. -/
import Derived.Test.YtdgdgoekapekpaaEv7
namespace Go.V.P
open Go.RowKit Go.V Go.Proofs
set_option linter.unusedVariables false
set_option maxRecDepth 100000
section
variable {α : Type} (a_ : (List (List Int))) (b_ : (List (List Int))) (s2730 : Int) (y2734 : Bool) (k : St → Option α) (q : Kont α)
noncomputable abbrev C95 := codeOf E.P 14
noncomputable abbrev P95 := @preK α E 14 cp91 ce4
noncomputable abbrev R95 := @runCode α E 14 cp91 ce4
abbrev S95_0 : St := ⟨[(0, rl (.one (.sl (.one (.int .i8)))) a_), (1, rl (.one (.sl (.one (.int .i8)))) b_)], [], [], 29⟩
theorem d6a : P95 1 C95 (S95_0 a_ b_) k = k (S95_0 a_ b_) := by kernel_rfl
theorem b8g : P95 1 C95.r.l (S95_0 a_ b_) k = k ⟨[(0, rl (.one (.sl (.one (.int .i8)))) a_), (1, rl (.one (.sl (.one (.int .i8)))) b_), (11, rb ((a_.length : Int) != (b_.length : Int)))], [], [], 29⟩ := by kernel_rfl
abbrev S95_1 : St := ⟨[(4, rb false)], [], [], 29⟩
theorem d6c : P95 1 C95.r.l.r.t (S95_0 a_ b_) k = k S95_1 := by kernel_rfl
abbrev S95_2 : St := ⟨[(0, rl (.one (.sl (.one (.int .i8)))) a_), (1, rl (.one (.sl (.one (.int .i8)))) b_), (5, ri 0)], [], [], 29⟩
theorem d6b : P95 1 C95.r.r.l (S95_0 a_ b_) k = k (S95_2 a_ b_) := by kernel_rfl
abbrev S95_3 : St := ⟨[(0, rl (.one (.sl (.one (.int .i8)))) a_), (1, rl (.one (.sl (.one (.int .i8)))) b_), (5, ri s2730)], [], [], 29⟩
theorem c8b : P95 1 C95.r.r.l.r.b.b.l (S95_3 a_ b_ s2730) k = k ⟨[(0, rl (.one (.sl (.one (.int .i8)))) a_), (1, rl (.one (.sl (.one (.int .i8)))) b_), (5, ri s2730), (15, rb (decide (s2730 < (a_.length : Int))))], [], [], 29⟩ := by kernel_rfl
def b3p : Option Bool := (bif (decide ((0 : Int) ≤ s2730)) then (bif (decide (s2730 < (a_.length : Int))) then (bif (decide ((0 : Int) ≤ s2730)) then (bif (decide (s2730 < (b_.length : Int))) then (Option.bind (a2f (gt a_ s2730 []) (gt b_ s2730 [])) (fun y2733 : Bool => (some y2733))) else none) else none) else none) else none)
abbrev S95_4 : St := ⟨[(0, rl (.one (.sl (.one (.int .i8)))) a_), (1, rl (.one (.sl (.one (.int .i8)))) b_), (5, ri s2730), (6, rb y2734)], [], [], 29⟩
theorem d6g : P95 1 C95.r.r.l.r.b.b.r.l.b (S95_3 a_ b_ s2730) k = Option.bind (b3p a_ b_ s2730) (fun y2734 : Bool => k (S95_4 a_ b_ s2730 y2734)) := .trans (by kernel_rfl) (bif_b (bif_b (bif_b (bif_b (bind_b fun y2733 => some_b) none_b) none_b) none_b) none_b)
theorem b8h : P95 1 C95.r.r.l.r.b.b.r.l.b.r (S95_4 a_ b_ s2730 y2734) k = k ⟨[(0, rl (.one (.sl (.one (.int .i8)))) a_), (1, rl (.one (.sl (.one (.int .i8)))) b_), (5, ri s2730), (28, rb (!y2734))], [], [], 29⟩ := by kernel_rfl
theorem c8c : P95 1 C95.r.r.l.r.b.b.r.l.b.r.r.t (S95_3 a_ b_ s2730) k = k S95_1 := by kernel_rfl
theorem d6f : R95 C95.r.r.l.r.b.b.r.r (S95_3 a_ b_ s2730) q = q .normal ⟨[(0, rl (.one (.sl (.one (.int .i8)))) a_), (1, rl (.one (.sl (.one (.int .i8)))) b_), (5, ri (IntKind.wrap .i64 (s2730 + 1)))], [], [], 29⟩ := by kernel_rfl
def a7o : Option (Int ⊕ (Int ⊕ Unit)) := (bif (decide (s2730 < (a_.length : Int))) then (Option.bind (b3p a_ b_ s2730) (fun y2734 : Bool => (bif (!y2734) then (some (Sum.inr (Sum.inr ()))) else (some (Sum.inl (IntKind.wrap .i64 (s2730 + 1))))))) else (some (Sum.inr (Sum.inl s2730))))
abbrev S95_5 (y2735 : Int) : St := ⟨[(0, rl (.one (.sl (.one (.int .i8)))) a_), (1, rl (.one (.sl (.one (.int .i8)))) b_), (5, ri y2735)], [], [], 29⟩
theorem c8e : R95 C95.r.r.l.r.b.b (S95_3 a_ b_ s2730) (loopKont 0 q) = Option.bind (a7o a_ b_ s2730) (either (fun y : Int => q .normal ⟨[(0, rl (.one (.sl (.one (.int .i8)))) a_), (1, rl (.one (.sl (.one (.int .i8)))) b_), (5, ri y)], [], [], 29⟩) (either (fun y2735 : Int => q (.exit 0) (S95_5 a_ b_ y2735)) (fun y2736 : Unit => q .ret S95_1))) := by
  refine .trans ?_ (bif_b (bind_b fun y2734 => (bif_b e3_2 e3_0)) e3_1)
  refine .trans seq_push ?_
  refine (pre1 (c8b a_ b_ s2730 _)).trans ?_
  refine (cond_e (b := (decide (s2730 < (a_.length : Int)))) (st' := (S95_3 a_ b_ s2730)) ).trans (bif_g ?_ ?_)
  · refine (skip_eq).trans ?_
    refine (seqC_normal (st' := (S95_3 a_ b_ s2730))).trans ?_
    refine .trans seq_push ?_
    refine (block_push (id := 1)).trans ?_
    refine (pre1 (d6g a_ b_ s2730 _)).trans (bind_g fun y2734 => ?_)
    refine (pre1 (b8h a_ b_ s2730 y2734 _)).trans ?_
    refine (cond_e (b := (!y2734)) (st' := (S95_3 a_ b_ s2730)) ).trans (bif_g ?_ ?_)
    · refine (pre1 (c8c a_ b_ s2730 _)).trans ?_
      refine (ret_eq).trans ?_
      refine block_ret.trans ?_
      refine seqC_ret.trans ?_
      kernel_rfl
    · refine (skip_eq).trans ?_
      refine block_normal.trans ?_
      refine (seqC_normal (st' := (S95_3 a_ b_ s2730))).trans ?_
      refine (d6f a_ b_ s2730 _).trans ?_
      kernel_rfl
  · refine ((exit_eq (j := 0))).trans ?_
    refine seqC_exit.trans ?_
    kernel_rfl
theorem d6e : R95 C95.r.r.l.r.b (S95_2 a_ b_) q = Option.bind (iterN (a7o a_ b_) LL (0 : Int)) (either (fun y2735 : Int => q (.exit 0) (S95_5 a_ b_ y2735)) (fun y2736 : Unit => q .ret S95_1)) :=
  Eq.trans (by kernel_rfl) (loop_iter2 (S := fun s2730 : Int => (S95_3 a_ b_ s2730)) (Y1 := fun y2735 : Int => ((.exit 0), (S95_5 a_ b_ y2735))) (Y2 := fun y2736 : Unit => (.ret, S95_1)) (fun s q => c8e a_ b_ s q) (fun z => rfl) (fun z => rfl) LL (0 : Int))
theorem c8d : P95 1 C95.r.r.r ⟨[], [], [], 29⟩ k = k ⟨[(4, rb true)], [], [], 29⟩ := by kernel_rfl
/-- quilt/quiltref06.Same -/
def b6q : Option Bool := (bif ((a_.length : Int) != (b_.length : Int)) then (some false) else (Option.bind (iterN (a7o a_ b_) LL (0 : Int)) (either (fun y2735 : Int => (some true)) (fun y2736 : Unit => (some false)))))
theorem d6d : stepS E cp91 ce4 14 [rl (.one (.sl (.one (.int .i8)))) a_, rl (.one (.sl (.one (.int .i8)))) b_] = Option.bind (b6q a_ b_) (fun y : Bool => some (rb y : R)) := by
  refine .trans ?_ (bif_b some_b (bind_b (either_b (fun y2735 => some_b) (fun y2736 => some_b))))
  refine (stepG_is (nt := 29) (regs := [(0, rl (.one (.sl (.one (.int .i8)))) a_), (1, rl (.one (.sl (.one (.int .i8)))) b_)])).trans ?_
  refine (pre1 (d6a a_ b_ _)).trans ?_
  refine .trans seq_push ?_
  refine (pre1 (b8g a_ b_ _)).trans ?_
  refine (cond_e (b := ((a_.length : Int) != (b_.length : Int))) (st' := (S95_0 a_ b_)) ).trans (bif_g ?_ ?_)
  · refine (pre1 (d6c a_ b_ _)).trans ?_
    refine (ret_eq).trans ?_
    refine seqC_ret.trans ?_
    kernel_rfl
  · refine (skip_eq).trans ?_
    refine (seqC_normal (st' := (S95_0 a_ b_))).trans ?_
    refine .trans seq_push ?_
    refine (pre1 (d6b a_ b_ _)).trans ?_
    refine (block_push (id := 0)).trans ?_
    refine (d6e a_ b_ _).trans (bind_g (either_g (fun y2735 => ?_) (fun y2736 => ?_)))
    · refine block_same.trans ?_
      refine (seqC_normal (st' := ⟨[], [], [], 29⟩)).trans ?_
      refine (pre1 (c8d _)).trans ?_
      refine (ret_eq).trans ?_
      kernel_rfl
    · refine block_ret.trans ?_
      refine seqC_ret.trans ?_
      kernel_rfl
noncomputable def cp92 : CallP := withC cp91 14 [(.one (.g (.sl (.one (.sl (.one (.int .i8))))))), (.one (.g (.sl (.one (.sl (.one (.int .i8)))))))] (.one pB) (fun y : Bool => y) (fun x => b6q x.1 x.2.1)
theorem b0n : PureOK E cp92 := conS eok e67 a0o fun x => Eq.mp (by kernel_rfl) (d6d x.1 x.2.1)
end
end Go.V.P
