/- What functions compute. -/
import Derived.Test.YtcmckbcpeocokaaGb2
namespace Go.V.P
open Go.RowKit Go.V Go.Proofs
set_option linter.unusedVariables false
set_option maxRecDepth 100000
section
variable {α β : Type} (g_ : Graph) (y249 : Bool) (y290 : Graph) (y470 : (List Int)) (s623 : (Int × (List Bool))) (s659 : (Int × (List Bool))) (y669 : (List Bool)) (y670 : (Int × (List Bool))) (y672 : (Int × (List Bool))) (s697 : (Int × (List Bool))) (y704 : (Int × (List Bool))) (s717 : Int) (k : St → Option α) (q : Kont α)
noncomputable abbrev C45 := codeOf E.P 9
noncomputable abbrev P45 := @preK α E 9 cp43 ce2
noncomputable abbrev R45 := @runCode α E 9 cp43 ce2
theorem law03_GraphUses_r1 : P45 2 C45 ⟨[(0, rA tsGraph g_)], [], [], 124⟩ k = Option.bind law03_shown fun y249 : Bool => k ⟨[(1, rF 0), (3, rb y249)], [(tsGraph.leaves g_)], [], 124⟩ := by kernel_rfl
abbrev S45_0 : St := ⟨[(1, rF 0), (3, rb y249)], [(tsGraph.leaves y290)], [], 124⟩
theorem law03_GraphUses_r2 : P45 1 C45.r.r ⟨[(1, rF 0), (3, rb y249)], [(tsGraph.leaves g_)], [], 124⟩ k = Option.bind (law03_less g_) fun y290 : Graph => k (S45_0 y249 y290) := by kernel_rfl
theorem law03_GraphUses_r3 : P45 1 C45.r.r.r.l (S45_0 y249 y290) k = Option.bind (graph_Check y290) fun y407 : Int => k ⟨[(1, rF 0), (3, rb y249), (16, rb (y407 != 0))], [(tsGraph.leaves y290)], [], 124⟩ := by kernel_rfl
theorem law03_GraphUses_fz : P45 1 C45.r.r.r.l.r.t (S45_0 y249 y290) k = k ⟨[(2, rb y249)], [[]], [], 124⟩ := by kernel_rfl
abbrev S45_1 : St := ⟨[(1, rF 0), (3, rb y249), (4, rl (.one (.int .i64)) y470)], [(tsGraph.leaves y290)], [], 124⟩
theorem law03_GraphUses_r5 : P45 1 C45.r.r.r.r (S45_0 y249 y290) k = Option.bind (graph_Last y290) fun y470 : (List Int) => k (S45_1 y249 y290 y470) := by kernel_rfl
def law03_GraphUses_r6_q (K : Bool → β) : β := (K ((y470.length : Int) != (IntKind.wrap .i64 ((y290.1.length : Int) + (y290.2.1.length : Int)))))
def law03_GraphUses_r6_p : Bool := law03_GraphUses_r6_q y290 y470 (fun y => y)
theorem law03_GraphUses_r6_n (K : Bool → β) : law03_GraphUses_r6_q y290 y470 K = K (law03_GraphUses_r6_p y290 y470) := rfl
theorem law03_GraphUses_r6 : P45 1 C45.r.r.r.r.r.l (S45_1 y249 y290 y470) k = k ⟨[(1, rF 0), (3, rb y249), (4, rl (.one (.int .i64)) y470), (29, rb (law03_GraphUses_r6_p y290 y470))], [(tsGraph.leaves y290)], [], 124⟩ := Eq.trans (by kernel_rfl) (law03_GraphUses_r6_n y290 y470 (fun y472 : Bool => k ⟨[(1, rF 0), (3, rb y249), (4, rl (.one (.int .i64)) y470), (29, rb y472)], [(tsGraph.leaves y290)], [], 124⟩))
theorem law03_GraphUses_fzx1 : P45 1 C45.r.r.r.r.r.l.r.t (S45_1 y249 y290 y470) k = k ⟨[(2, rb false)], [[]], [], 124⟩ := by kernel_rfl
def law03_GraphUses_r8_p : Option Unit := (bif (decide ((0 : Int) ≤ (y470.length : Int))) then (bif (decide ((y470.length : Int) ≤ (y470.length : Int))) then (bif (decide ((y470.length : Int) ≤ (maxL : Int))) then (bif ((y470.length : Int) == (y470.length : Int)) then (some ()) else none) else none) else none) else none)
abbrev S45_2 : St := ⟨[(1, rF 0), (3, rb y249), (4, rl (.one (.int .i64)) y470), (5, .one (.vref 1 (Int.toNat (y470.length : Int))))], [(tsGraph.leaves y290), [.vec .bool (List.replicate (Int.toNat (y470.length : Int)) false)]], [], 124⟩
theorem law03_GraphUses_r8 : P45 1 C45.r.r.r.r.r.r (S45_1 y249 y290 y470) k = Option.bind (law03_GraphUses_r8_p y470) (fun y473 : Unit => k (S45_2 y249 y290 y470)) := .trans (by kernel_rfl) (bif_b (bif_b (bif_b (bif_b some_b none_b) none_b) none_b) none_b)
abbrev S45_3 : St := ⟨[(1, rF 0), (3, rb y249), (4, rl (.one (.int .i64)) y470), (5, .one (.vref 1 (Int.toNat (y470.length : Int)))), (6, ri 0)], [(tsGraph.leaves y290), [.vec .bool (List.replicate (Int.toNat (y470.length : Int)) false)]], [], 124⟩
theorem law03_GraphUses_f10 : P45 1 C45.r.r.r.r.r.r.r.l (S45_2 y249 y290 y470) k = k (S45_3 y249 y290 y470) := by kernel_rfl
abbrev S45_4 : St := ⟨[(1, rF 0), (3, rb y249), (4, rl (.one (.int .i64)) y470), (5, .one (.vref 1 (Int.toNat (y470.length : Int)))), (6, ri s623.1)], [(tsGraph.leaves y290), [.vec .bool s623.2]], [], 124⟩
theorem law03_GraphUses_fzx2 : P45 1 C45.r.r.r.r.r.r.r.l.r.b.b.l (S45_4 y249 y290 y470 s623) k = k ⟨[(1, rF 0), (3, rb y249), (4, rl (.one (.int .i64)) y470), (5, .one (.vref 1 (Int.toNat (y470.length : Int)))), (6, ri s623.1), (37, rb (decide (s623.1 < (y290.2.1.length : Int))))], [(tsGraph.leaves y290), [.vec .bool s623.2]], [], 124⟩ := by kernel_rfl
abbrev S45_5 : St := ⟨[(1, rF 0), (3, rb y249), (4, rl (.one (.int .i64)) y470), (5, .one (.vref 1 (Int.toNat (y470.length : Int)))), (6, ri s623.1), (7, ri 0)], [(tsGraph.leaves y290), [.vec .bool s623.2]], [], 124⟩
theorem law03_GraphUses_f13 : P45 1 C45.r.r.r.r.r.r.r.l.r.b.b.r.l.b (S45_4 y249 y290 y470 s623) k = k (S45_5 y249 y290 y470 s623) := by kernel_rfl
def law03_GraphUses_r13_p : Option Unit := (bif (decide ((0 : Int) ≤ s623.1)) then (bif (decide (s623.1 < (y290.2.1.length : Int))) then (some ()) else none) else none)
abbrev S45_6 : St := ⟨[(1, rF 0), (3, rb y249), (4, rl (.one (.int .i64)) y470), (5, .one (.vref 1 (Int.toNat (y470.length : Int)))), (6, ri s623.1), (7, ri s659.1)], [(tsGraph.leaves y290), [.vec .bool s659.2]], [], 124⟩
theorem law03_GraphUses_r13 : P45 1 C45.r.r.r.r.r.r.r.l.r.b.b.r.l.b.r.b.b.l (S45_6 y249 y290 y470 s623 s659) k = Option.bind (law03_GraphUses_r13_p y290 s623) (fun y661 : Unit => k ⟨[(1, rF 0), (3, rb y249), (4, rl (.one (.int .i64)) y470), (5, .one (.vref 1 (Int.toNat (y470.length : Int)))), (6, ri s623.1), (7, ri s659.1), (48, rb (decide (s659.1 < (((gt y290.2.1 s623.1 dNode).2.1).length : Int))))], [(tsGraph.leaves y290), [.vec .bool s659.2]], [], 124⟩) := .trans (by kernel_rfl) (bif_b (bif_b some_b none_b) none_b)
def law03_GraphUses_r15_p : Option Unit := (bif (decide ((0 : Int) ≤ s623.1)) then (bif (decide (s623.1 < (y290.2.1.length : Int))) then (bif (decide ((0 : Int) ≤ s659.1)) then (bif (decide (s659.1 < (((gt y290.2.1 s623.1 dNode).2.1).length : Int))) then (some ()) else none) else none) else none) else none)
abbrev S45_7 : St := ⟨[(1, rF 0), (3, rb y249), (4, rl (.one (.int .i64)) y470), (5, .one (.vref 1 (Int.toNat (y470.length : Int)))), (6, ri s623.1), (7, ri s659.1), (8, ri (gt ((gt y290.2.1 s623.1 dNode).2.1) s659.1 (0 : Int)))], [(tsGraph.leaves y290), [.vec .bool s659.2]], [], 124⟩
theorem law03_GraphUses_r15 : P45 1 C45.r.r.r.r.r.r.r.l.r.b.b.r.l.b.r.b.b.r.l.b (S45_6 y249 y290 y470 s623 s659) k = Option.bind (law03_GraphUses_r15_p y290 s623 s659) (fun y666 : Unit => k (S45_7 y249 y290 y470 s623 s659)) := .trans (by kernel_rfl) (bif_b (bif_b (bif_b (bif_b some_b none_b) none_b) none_b) none_b)
def law03_GraphUses_r16_p : Option Bool := (bif (decide ((0 : Int) ≤ (gt ((gt y290.2.1 s623.1 dNode).2.1) s659.1 (0 : Int)))) then (bif (decide ((gt ((gt y290.2.1 s623.1 dNode).2.1) s659.1 (0 : Int)) < (y470.length : Int))) then (some (decide ((gt y470 (gt ((gt y290.2.1 s623.1 dNode).2.1) s659.1 (0 : Int)) (0 : Int)) < s623.1))) else none) else none)
theorem law03_GraphUses_r16 : P45 1 C45.r.r.r.r.r.r.r.l.r.b.b.r.l.b.r.b.b.r.l.b.r.l (S45_7 y249 y290 y470 s623 s659) k = Option.bind (law03_GraphUses_r16_p y290 y470 s623 s659) (fun y668 : Bool => k ⟨[(1, rF 0), (3, rb y249), (4, rl (.one (.int .i64)) y470), (5, .one (.vref 1 (Int.toNat (y470.length : Int)))), (6, ri s623.1), (7, ri s659.1), (8, ri (gt ((gt y290.2.1 s623.1 dNode).2.1) s659.1 (0 : Int))), (65, rb y668)], [(tsGraph.leaves y290), [.vec .bool s659.2]], [], 124⟩) := .trans (by kernel_rfl) (bif_b (bif_b some_b none_b) none_b)
theorem law03_GraphUses_fzx3 : P45 1 C45.r.r.r.r.r.r.r.l.r.b.b.r.l.b.r.b.b.r.l.b.r.l.r.t (S45_7 y249 y290 y470 s623 s659) k = k ⟨[(2, rb false)], [[], [.vec .bool s659.2]], [], 124⟩ := by kernel_rfl
def law03_GraphUses_r18_p : Option (List Bool) := (bif (decide ((0 : Int) ≤ (gt ((gt y290.2.1 s623.1 dNode).2.1) s659.1 (0 : Int)))) then (bif (decide ((gt ((gt y290.2.1 s623.1 dNode).2.1) s659.1 (0 : Int)) < (((Int.toNat (y470.length : Int)) : Nat) : Int))) then (bif (decide ((Int.toNat (gt ((gt y290.2.1 s623.1 dNode).2.1) s659.1 (0 : Int))) < s659.2.length)) then (bif (gt s659.2 (gt ((gt y290.2.1 s623.1 dNode).2.1) s659.1 (0 : Int)) false) then (bif (decide ((0 : Int) ≤ (gt ((gt y290.2.1 s623.1 dNode).2.1) s659.1 (0 : Int)))) then (bif (decide ((gt ((gt y290.2.1 s623.1 dNode).2.1) s659.1 (0 : Int)) < (((Int.toNat (y470.length : Int)) : Nat) : Int))) then (bif (decide ((Int.toNat (gt ((gt y290.2.1 s623.1 dNode).2.1) s659.1 (0 : Int))) < s659.2.length)) then (some (s659.2.set (Int.toNat (gt ((gt y290.2.1 s623.1 dNode).2.1) s659.1 (0 : Int))) true)) else none) else none) else none) else (bif (decide ((0 : Int) ≤ (gt ((gt y290.2.1 s623.1 dNode).2.1) s659.1 (0 : Int)))) then (bif (decide ((gt ((gt y290.2.1 s623.1 dNode).2.1) s659.1 (0 : Int)) < (y470.length : Int))) then (bif (decide ((0 : Int) ≤ (gt ((gt y290.2.1 s623.1 dNode).2.1) s659.1 (0 : Int)))) then (bif (decide ((gt ((gt y290.2.1 s623.1 dNode).2.1) s659.1 (0 : Int)) < (((Int.toNat (y470.length : Int)) : Nat) : Int))) then (bif (decide ((Int.toNat (gt ((gt y290.2.1 s623.1 dNode).2.1) s659.1 (0 : Int))) < s659.2.length)) then (some (s659.2.set (Int.toNat (gt ((gt y290.2.1 s623.1 dNode).2.1) s659.1 (0 : Int))) ((gt y470 (gt ((gt y290.2.1 s623.1 dNode).2.1) s659.1 (0 : Int)) (0 : Int)) == s623.1))) else none) else none) else none) else none) else none)) else none) else none) else none)
abbrev S45_8 : St := ⟨[(1, rF 0), (3, rb y249), (4, rl (.one (.int .i64)) y470), (5, .one (.vref 1 (Int.toNat (y470.length : Int)))), (6, ri s623.1), (7, ri s659.1)], [(tsGraph.leaves y290), [.vec .bool y669]], [], 124⟩
theorem law03_GraphUses_r18 : R45 C45.r.r.r.r.r.r.r.l.r.b.b.r.l.b.r.b.b.r.l.b.r.r (S45_7 y249 y290 y470 s623 s659) q = Option.bind (law03_GraphUses_r18_p y290 y470 s623 s659) (fun y669 : (List Bool) => q .normal (S45_8 y249 y290 y470 s623 s659 y669)) := .trans (by kernel_rfl) (bif_b (bif_b (bif_b (bif_b (bif_b (bif_b (bif_b some_b none_b) none_b) none_b) (bif_b (bif_b (bif_b (bif_b (bif_b some_b none_b) none_b) none_b) none_b) none_b)) none_b) none_b) none_b)
theorem law03_GraphUses_r14 : R45 C45.r.r.r.r.r.r.r.l.r.b.b.r.l.b.r.b.b.r.r (S45_8 y249 y290 y470 s623 s659 y669) q = q .normal ⟨[(1, rF 0), (3, rb y249), (4, rl (.one (.int .i64)) y470), (5, .one (.vref 1 (Int.toNat (y470.length : Int)))), (6, ri s623.1), (7, ri (IntKind.wrap .i64 (s659.1 + 1)))], [(tsGraph.leaves y290), [.vec .bool y669]], [], 124⟩ := by kernel_rfl
def law03_GraphUses_l13_p : Option ((Int × (List Bool)) ⊕ ((Int × (List Bool)) ⊕ (List Bool))) := (Option.bind (law03_GraphUses_r13_p y290 s623) (fun y661 : Unit => (bif (decide (s659.1 < (((gt y290.2.1 s623.1 dNode).2.1).length : Int))) then (Option.bind (law03_GraphUses_r15_p y290 s623 s659) (fun y666 : Unit => (Option.bind (law03_GraphUses_r16_p y290 y470 s623 s659) (fun y668 : Bool => (bif y668 then (some (Sum.inr (Sum.inr s659.2))) else (Option.bind (law03_GraphUses_r18_p y290 y470 s623 s659) (fun y669 : (List Bool) => (some (Sum.inl ((IntKind.wrap .i64 (s659.1 + 1)), y669)))))))))) else (some (Sum.inr (Sum.inl s659))))))
abbrev S45_9 : St := ⟨[(1, rF 0), (3, rb y249), (4, rl (.one (.int .i64)) y470), (5, .one (.vref 1 (Int.toNat (y470.length : Int)))), (6, ri s623.1), (7, ri y670.1)], [(tsGraph.leaves y290), [.vec .bool y670.2]], [], 124⟩
abbrev S45_10 (y671 : (List Bool)) : St := ⟨[(2, rb false)], [[], [.vec .bool y671]], [], 124⟩
theorem law03_GraphUses_l13_b : R45 C45.r.r.r.r.r.r.r.l.r.b.b.r.l.b.r.b.b (S45_6 y249 y290 y470 s623 s659) (loopKont 2 q) = Option.bind (law03_GraphUses_l13_p y290 y470 s623 s659) (either (fun y : (Int × (List Bool)) => q .normal ⟨[(1, rF 0), (3, rb y249), (4, rl (.one (.int .i64)) y470), (5, .one (.vref 1 (Int.toNat (y470.length : Int)))), (6, ri s623.1), (7, ri y.1)], [(tsGraph.leaves y290), [.vec .bool y.2]], [], 124⟩) (either (fun y670 : (Int × (List Bool)) => q (.exit 2) (S45_9 y249 y290 y470 s623 y670)) (fun y671 : (List Bool) => q .ret (S45_10 y671)))) := by
  refine .trans ?_ (bind_b fun y661 => (bif_b (bind_b fun y666 => (bind_b fun y668 => (bif_b e3_2 (bind_b fun y669 => e3_0)))) e3_1))
  refine .trans seq_push ?_
  refine (pre1 (law03_GraphUses_r13 y249 y290 y470 s623 s659 _)).trans (bind_g fun y661 => ?_)
  refine (cond_e (b := (decide (s659.1 < (((gt y290.2.1 s623.1 dNode).2.1).length : Int)))) (st' := (S45_6 y249 y290 y470 s623 s659)) ).trans (bif_g ?_ ?_)
  · refine (skip_eq).trans ?_
    refine (seqC_normal (st' := (S45_6 y249 y290 y470 s623 s659))).trans ?_
    refine .trans seq_push ?_
    refine (block_push (id := 3)).trans ?_
    refine (pre1 (law03_GraphUses_r15 y249 y290 y470 s623 s659 _)).trans (bind_g fun y666 => ?_)
    refine .trans seq_push ?_
    refine (pre1 (law03_GraphUses_r16 y249 y290 y470 s623 s659 _)).trans (bind_g fun y668 => ?_)
    refine (cond_e (b := y668) (st' := (S45_7 y249 y290 y470 s623 s659)) ).trans (bif_g ?_ ?_)
    · refine (pre1 (law03_GraphUses_fzx3 y249 y290 y470 s623 s659 _)).trans ?_
      refine (ret_eq).trans ?_
      refine seqC_ret.trans ?_
      refine block_ret.trans ?_
      refine seqC_ret.trans ?_
      kernel_rfl
    · refine (skip_eq).trans ?_
      refine (seqC_normal (st' := (S45_7 y249 y290 y470 s623 s659))).trans ?_
      refine (law03_GraphUses_r18 y249 y290 y470 s623 s659 _).trans (bind_g fun y669 => ?_)
      refine block_normal.trans ?_
      refine (seqC_normal (st' := (S45_8 y249 y290 y470 s623 s659 y669))).trans ?_
      refine (law03_GraphUses_r14 y249 y290 y470 s623 s659 y669 _).trans ?_
      kernel_rfl
  · refine ((exit_eq (j := 2))).trans ?_
    refine seqC_exit.trans ?_
    kernel_rfl
theorem law03_GraphUses_l13 : R45 C45.r.r.r.r.r.r.r.l.r.b.b.r.l.b.r.b (S45_5 y249 y290 y470 s623) q = Option.bind (iterN (law03_GraphUses_l13_p y290 y470 s623) LL ((0 : Int), s623.2)) (either (fun y670 : (Int × (List Bool)) => q (.exit 2) (S45_9 y249 y290 y470 s623 y670)) (fun y671 : (List Bool) => q .ret (S45_10 y671))) :=
  Eq.trans (by kernel_rfl) (loop_iter2 (S := fun s659 : (Int × (List Bool)) => (S45_6 y249 y290 y470 s623 s659)) (Y1 := fun y670 : (Int × (List Bool)) => ((.exit 2), (S45_9 y249 y290 y470 s623 y670))) (Y2 := fun y671 : (List Bool) => (.ret, (S45_10 y671))) (fun s q => law03_GraphUses_l13_b y249 y290 y470 s623 s q) (fun z => rfl) (fun z => rfl) LL ((0 : Int), s623.2))
abbrev S45_11 : St := ⟨[(1, rF 0), (3, rb y249), (4, rl (.one (.int .i64)) y470), (5, .one (.vref 1 (Int.toNat (y470.length : Int)))), (6, ri s623.1)], [(tsGraph.leaves y290), [.vec .bool y670.2]], [], 124⟩
theorem law03_GraphUses_r11 : R45 C45.r.r.r.r.r.r.r.l.r.b.b.r.r (S45_11 y249 y290 y470 s623 y670) q = q .normal ⟨[(1, rF 0), (3, rb y249), (4, rl (.one (.int .i64)) y470), (5, .one (.vref 1 (Int.toNat (y470.length : Int)))), (6, ri (IntKind.wrap .i64 (s623.1 + 1)))], [(tsGraph.leaves y290), [.vec .bool y670.2]], [], 124⟩ := by kernel_rfl
def law03_GraphUses_l10_p : Option ((Int × (List Bool)) ⊕ ((Int × (List Bool)) ⊕ (List Bool))) := (bif (decide (s623.1 < (y290.2.1.length : Int))) then (Option.bind (iterN (law03_GraphUses_l13_p y290 y470 s623) LL ((0 : Int), s623.2)) (either (fun y670 : (Int × (List Bool)) => (some (Sum.inl ((IntKind.wrap .i64 (s623.1 + 1)), y670.2)))) (fun y671 : (List Bool) => (some (Sum.inr (Sum.inr y671)))))) else (some (Sum.inr (Sum.inl s623))))
abbrev S45_12 : St := ⟨[(1, rF 0), (3, rb y249), (4, rl (.one (.int .i64)) y470), (5, .one (.vref 1 (Int.toNat (y470.length : Int)))), (6, ri y672.1)], [(tsGraph.leaves y290), [.vec .bool y672.2]], [], 124⟩
abbrev S45_13 (y673 : (List Bool)) : St := ⟨[(2, rb false)], [[], [.vec .bool y673]], [], 124⟩
theorem law03_GraphUses_l10_b : R45 C45.r.r.r.r.r.r.r.l.r.b.b (S45_4 y249 y290 y470 s623) (loopKont 2 q) = Option.bind (law03_GraphUses_l10_p y290 y470 s623) (either (fun y : (Int × (List Bool)) => q .normal ⟨[(1, rF 0), (3, rb y249), (4, rl (.one (.int .i64)) y470), (5, .one (.vref 1 (Int.toNat (y470.length : Int)))), (6, ri y.1)], [(tsGraph.leaves y290), [.vec .bool y.2]], [], 124⟩) (either (fun y672 : (Int × (List Bool)) => q (.exit 0) (S45_12 y249 y290 y470 y672)) (fun y673 : (List Bool) => q .ret (S45_13 y673)))) := by
  refine .trans ?_ (bif_b (bind_b (either_b (fun y670 => e3_0) (fun y671 => e3_2))) e3_1)
  refine .trans seq_push ?_
  refine (pre1 (law03_GraphUses_fzx2 y249 y290 y470 s623 _)).trans ?_
  refine (cond_e (b := (decide (s623.1 < (y290.2.1.length : Int)))) (st' := (S45_4 y249 y290 y470 s623)) ).trans (bif_g ?_ ?_)
  · refine (skip_eq).trans ?_
    refine (seqC_normal (st' := (S45_4 y249 y290 y470 s623))).trans ?_
    refine .trans seq_push ?_
    refine (block_push (id := 1)).trans ?_
    refine (pre1 (law03_GraphUses_f13 y249 y290 y470 s623 _)).trans ?_
    refine (block_push (id := 2)).trans ?_
    refine (law03_GraphUses_l13 y249 y290 y470 s623 _).trans (bind_g (either_g (fun y670 => ?_) (fun y671 => ?_)))
    · refine block_same.trans ?_
      refine block_normal.trans ?_
      refine (seqC_normal (st' := (S45_11 y249 y290 y470 s623 y670))).trans ?_
      refine (law03_GraphUses_r11 y249 y290 y470 s623 y670 _).trans ?_
      kernel_rfl
    · refine block_ret.trans ?_
      refine block_ret.trans ?_
      refine seqC_ret.trans ?_
      kernel_rfl
  · refine ((exit_eq (j := 0))).trans ?_
    refine seqC_exit.trans ?_
    kernel_rfl
theorem law03_GraphUses_l10 : R45 C45.r.r.r.r.r.r.r.l.r.b (S45_3 y249 y290 y470) q = Option.bind (iterN (law03_GraphUses_l10_p y290 y470) LL ((0 : Int), (List.replicate (Int.toNat (y470.length : Int)) false))) (either (fun y672 : (Int × (List Bool)) => q (.exit 0) (S45_12 y249 y290 y470 y672)) (fun y673 : (List Bool) => q .ret (S45_13 y673))) :=
  Eq.trans (by kernel_rfl) (loop_iter2 (S := fun s623 : (Int × (List Bool)) => (S45_4 y249 y290 y470 s623)) (Y1 := fun y672 : (Int × (List Bool)) => ((.exit 0), (S45_12 y249 y290 y470 y672))) (Y2 := fun y673 : (List Bool) => (.ret, (S45_13 y673))) (fun s q => law03_GraphUses_l10_b y249 y290 y470 s q) (fun z => rfl) (fun z => rfl) LL ((0 : Int), (List.replicate (Int.toNat (y470.length : Int)) false)))
abbrev S45_14 : St := ⟨[(1, rF 0), (3, rb y249), (4, rl (.one (.int .i64)) y470), (5, .one (.vref 1 (Int.toNat (y470.length : Int))))], [(tsGraph.leaves y290), [.vec .bool y672.2]], [], 124⟩
abbrev S45_15 : St := ⟨[(1, rF 0), (3, rb y249), (4, rl (.one (.int .i64)) y470), (5, .one (.vref 1 (Int.toNat (y470.length : Int)))), (9, ri 0)], [(tsGraph.leaves y290), [.vec .bool y672.2]], [], 124⟩
theorem law03_GraphUses_f20 : P45 1 C45.r.r.r.r.r.r.r.r.l (S45_14 y249 y290 y470 y672) k = k (S45_15 y249 y290 y470 y672) := by kernel_rfl
abbrev S45_16 : St := ⟨[(1, rF 0), (3, rb y249), (4, rl (.one (.int .i64)) y470), (5, .one (.vref 1 (Int.toNat (y470.length : Int)))), (9, ri s697.1)], [(tsGraph.leaves y290), [.vec .bool s697.2]], [], 124⟩
theorem law03_GraphUses_fzx4 : P45 1 C45.r.r.r.r.r.r.r.r.l.r.b.b.l (S45_16 y249 y290 y470 s697) k = k ⟨[(1, rF 0), (3, rb y249), (4, rl (.one (.int .i64)) y470), (5, .one (.vref 1 (Int.toNat (y470.length : Int)))), (9, ri s697.1), (85, rb (decide (s697.1 < (y290.2.2.length : Int))))], [(tsGraph.leaves y290), [.vec .bool s697.2]], [], 124⟩ := by kernel_rfl
def law03_GraphUses_r22_p : Option Unit := (bif (decide ((0 : Int) ≤ s697.1)) then (bif (decide (s697.1 < (y290.2.2.length : Int))) then (bif (decide ((0 : Int) ≤ (gt y290.2.2 s697.1 (0 : Int)))) then (bif (decide ((gt y290.2.2 s697.1 (0 : Int)) < (y470.length : Int))) then (some ()) else none) else none) else none) else none)
theorem law03_GraphUses_r22 : P45 1 C45.r.r.r.r.r.r.r.r.l.r.b.b.r.l.b.l (S45_16 y249 y290 y470 s697) k = Option.bind (law03_GraphUses_r22_p y290 y470 s697) (fun y702 : Unit => k ⟨[(1, rF 0), (3, rb y249), (4, rl (.one (.int .i64)) y470), (5, .one (.vref 1 (Int.toNat (y470.length : Int)))), (9, ri s697.1), (99, rb ((gt y470 (gt y290.2.2 s697.1 (0 : Int)) (0 : Int)) != (y290.2.1.length : Int)))], [(tsGraph.leaves y290), [.vec .bool s697.2]], [], 124⟩) := .trans (by kernel_rfl) (bif_b (bif_b (bif_b (bif_b some_b none_b) none_b) none_b) none_b)
theorem law03_GraphUses_fzx5 : P45 1 C45.r.r.r.r.r.r.r.r.l.r.b.b.r.l.b.l.r.t (S45_16 y249 y290 y470 s697) k = k ⟨[(2, rb false)], [[], [.vec .bool s697.2]], [], 124⟩ := by kernel_rfl
def law03_GraphUses_r24_p : Option Unit := (bif (decide ((0 : Int) ≤ s697.1)) then (bif (decide (s697.1 < (y290.2.2.length : Int))) then (bif (decide ((0 : Int) ≤ (gt y290.2.2 s697.1 (0 : Int)))) then (bif (decide ((gt y290.2.2 s697.1 (0 : Int)) < (((Int.toNat (y470.length : Int)) : Nat) : Int))) then (bif (decide ((Int.toNat (gt y290.2.2 s697.1 (0 : Int))) < s697.2.length)) then (some ()) else none) else none) else none) else none) else none)
abbrev S45_17 : St := ⟨[(1, rF 0), (3, rb y249), (4, rl (.one (.int .i64)) y470), (5, .one (.vref 1 (Int.toNat (y470.length : Int)))), (9, ri s697.1)], [(tsGraph.leaves y290), [.vec .bool (s697.2.set (Int.toNat (gt y290.2.2 s697.1 (0 : Int))) true)]], [], 124⟩
theorem law03_GraphUses_r24 : R45 C45.r.r.r.r.r.r.r.r.l.r.b.b.r.l.b.r (S45_16 y249 y290 y470 s697) q = Option.bind (law03_GraphUses_r24_p y290 y470 s697) (fun y703 : Unit => q .normal (S45_17 y249 y290 y470 s697)) := .trans (by kernel_rfl) (bif_b (bif_b (bif_b (bif_b (bif_b some_b none_b) none_b) none_b) none_b) none_b)
theorem law03_GraphUses_r21 : R45 C45.r.r.r.r.r.r.r.r.l.r.b.b.r.r (S45_17 y249 y290 y470 s697) q = q .normal ⟨[(1, rF 0), (3, rb y249), (4, rl (.one (.int .i64)) y470), (5, .one (.vref 1 (Int.toNat (y470.length : Int)))), (9, ri (IntKind.wrap .i64 (s697.1 + 1)))], [(tsGraph.leaves y290), [.vec .bool (s697.2.set (Int.toNat (gt y290.2.2 s697.1 (0 : Int))) true)]], [], 124⟩ := by kernel_rfl
def law03_GraphUses_l20_p : Option ((Int × (List Bool)) ⊕ ((Int × (List Bool)) ⊕ (List Bool))) := (bif (decide (s697.1 < (y290.2.2.length : Int))) then (Option.bind (law03_GraphUses_r22_p y290 y470 s697) (fun y702 : Unit => (bif ((gt y470 (gt y290.2.2 s697.1 (0 : Int)) (0 : Int)) != (y290.2.1.length : Int)) then (some (Sum.inr (Sum.inr s697.2))) else (Option.bind (law03_GraphUses_r24_p y290 y470 s697) (fun y703 : Unit => (some (Sum.inl ((IntKind.wrap .i64 (s697.1 + 1)), (s697.2.set (Int.toNat (gt y290.2.2 s697.1 (0 : Int))) true))))))))) else (some (Sum.inr (Sum.inl s697))))
abbrev S45_18 : St := ⟨[(1, rF 0), (3, rb y249), (4, rl (.one (.int .i64)) y470), (5, .one (.vref 1 (Int.toNat (y470.length : Int)))), (9, ri y704.1)], [(tsGraph.leaves y290), [.vec .bool y704.2]], [], 124⟩
abbrev S45_19 (y705 : (List Bool)) : St := ⟨[(2, rb false)], [[], [.vec .bool y705]], [], 124⟩
theorem law03_GraphUses_l20_b : R45 C45.r.r.r.r.r.r.r.r.l.r.b.b (S45_16 y249 y290 y470 s697) (loopKont 2 q) = Option.bind (law03_GraphUses_l20_p y290 y470 s697) (either (fun y : (Int × (List Bool)) => q .normal ⟨[(1, rF 0), (3, rb y249), (4, rl (.one (.int .i64)) y470), (5, .one (.vref 1 (Int.toNat (y470.length : Int)))), (9, ri y.1)], [(tsGraph.leaves y290), [.vec .bool y.2]], [], 124⟩) (either (fun y704 : (Int × (List Bool)) => q (.exit 4) (S45_18 y249 y290 y470 y704)) (fun y705 : (List Bool) => q .ret (S45_19 y705)))) := by
  refine .trans ?_ (bif_b (bind_b fun y702 => (bif_b e3_2 (bind_b fun y703 => e3_0))) e3_1)
  refine .trans seq_push ?_
  refine (pre1 (law03_GraphUses_fzx4 y249 y290 y470 s697 _)).trans ?_
  refine (cond_e (b := (decide (s697.1 < (y290.2.2.length : Int)))) (st' := (S45_16 y249 y290 y470 s697)) ).trans (bif_g ?_ ?_)
  · refine (skip_eq).trans ?_
    refine (seqC_normal (st' := (S45_16 y249 y290 y470 s697))).trans ?_
    refine .trans seq_push ?_
    refine (block_push (id := 5)).trans ?_
    refine .trans seq_push ?_
    refine (pre1 (law03_GraphUses_r22 y249 y290 y470 s697 _)).trans (bind_g fun y702 => ?_)
    refine (cond_e (b := ((gt y470 (gt y290.2.2 s697.1 (0 : Int)) (0 : Int)) != (y290.2.1.length : Int))) (st' := (S45_16 y249 y290 y470 s697)) ).trans (bif_g ?_ ?_)
    · refine (pre1 (law03_GraphUses_fzx5 y249 y290 y470 s697 _)).trans ?_
      refine (ret_eq).trans ?_
      refine seqC_ret.trans ?_
      refine block_ret.trans ?_
      refine seqC_ret.trans ?_
      kernel_rfl
    · refine (skip_eq).trans ?_
      refine (seqC_normal (st' := (S45_16 y249 y290 y470 s697))).trans ?_
      refine (law03_GraphUses_r24 y249 y290 y470 s697 _).trans (bind_g fun y703 => ?_)
      refine block_normal.trans ?_
      refine (seqC_normal (st' := (S45_17 y249 y290 y470 s697))).trans ?_
      refine (law03_GraphUses_r21 y249 y290 y470 s697 _).trans ?_
      kernel_rfl
  · refine ((exit_eq (j := 4))).trans ?_
    refine seqC_exit.trans ?_
    kernel_rfl
theorem law03_GraphUses_l20 : R45 C45.r.r.r.r.r.r.r.r.l.r.b (S45_15 y249 y290 y470 y672) q = Option.bind (iterN (law03_GraphUses_l20_p y290 y470) LL ((0 : Int), y672.2)) (either (fun y704 : (Int × (List Bool)) => q (.exit 4) (S45_18 y249 y290 y470 y704)) (fun y705 : (List Bool) => q .ret (S45_19 y705))) :=
  Eq.trans (by kernel_rfl) (loop_iter2 (S := fun s697 : (Int × (List Bool)) => (S45_16 y249 y290 y470 s697)) (Y1 := fun y704 : (Int × (List Bool)) => ((.exit 4), (S45_18 y249 y290 y470 y704))) (Y2 := fun y705 : (List Bool) => (.ret, (S45_19 y705))) (fun s q => law03_GraphUses_l20_b y249 y290 y470 s q) (fun z => rfl) (fun z => rfl) LL ((0 : Int), y672.2))
abbrev S45_20 : St := ⟨[(3, rb y249), (4, rl (.one (.int .i64)) y470), (5, .one (.vref 1 (Int.toNat (y470.length : Int))))], [(tsGraph.leaves y290), [.vec .bool y704.2]], [], 124⟩
abbrev S45_21 : St := ⟨[(3, rb y249), (4, rl (.one (.int .i64)) y470), (5, .one (.vref 1 (Int.toNat (y470.length : Int)))), (10, ri 0)], [(tsGraph.leaves y290), [.vec .bool y704.2]], [], 124⟩
theorem law03_GraphUses_f26 : P45 1 C45.r.r.r.r.r.r.r.r.r.l (S45_20 y249 y290 y470 y704) k = k (S45_21 y249 y290 y470 y704) := by kernel_rfl
abbrev S45_22 : St := ⟨[(3, rb y249), (4, rl (.one (.int .i64)) y470), (5, .one (.vref 1 (Int.toNat (y470.length : Int)))), (10, ri s717)], [(tsGraph.leaves y290), [.vec .bool y704.2]], [], 124⟩
theorem law03_GraphUses_fzx6 : P45 1 C45.r.r.r.r.r.r.r.r.r.l.r.b.b.l (S45_22 y249 y290 y470 y704 s717) k = k ⟨[(3, rb y249), (4, rl (.one (.int .i64)) y470), (5, .one (.vref 1 (Int.toNat (y470.length : Int)))), (10, ri s717), (110, rb (decide (s717 < (y470.length : Int))))], [(tsGraph.leaves y290), [.vec .bool y704.2]], [], 124⟩ := by kernel_rfl
def law03_GraphUses_r28_p : Option Unit := (bif (decide ((0 : Int) ≤ s717)) then (bif (decide (s717 < (((Int.toNat (y470.length : Int)) : Nat) : Int))) then (bif (decide ((Int.toNat s717) < y704.2.length)) then (bif (decide ((0 : Int) ≤ s717)) then (bif (decide (s717 < (y470.length : Int))) then (some ()) else none) else none) else none) else none) else none)
theorem law03_GraphUses_r28 : P45 1 C45.r.r.r.r.r.r.r.r.r.l.r.b.b.r.l.b (S45_22 y249 y290 y470 y704 s717) k = Option.bind (law03_GraphUses_r28_p y470 y704 s717) (fun y719 : Unit => k ⟨[(3, rb y249), (4, rl (.one (.int .i64)) y470), (5, .one (.vref 1 (Int.toNat (y470.length : Int)))), (10, ri s717), (122, rb (!((gt y704.2 s717 false) == (decide ((gt y470 s717 (0 : Int)) ≥ 0)))))], [(tsGraph.leaves y290), [.vec .bool y704.2]], [], 124⟩) := .trans (by kernel_rfl) (bif_b (bif_b (bif_b (bif_b (bif_b some_b none_b) none_b) none_b) none_b) none_b)
abbrev S45_23 : St := ⟨[(2, rb false)], [(tsGraph.leaves y290), [.vec .bool y704.2]], [], 124⟩
theorem law03_GraphUses_fzx7 : P45 1 C45.r.r.r.r.r.r.r.r.r.l.r.b.b.r.l.b.r.t (S45_22 y249 y290 y470 y704 s717) k = k (S45_23 y290 y704) := by kernel_rfl
theorem law03_GraphUses_r27 : R45 C45.r.r.r.r.r.r.r.r.r.l.r.b.b.r.r (S45_22 y249 y290 y470 y704 s717) q = q .normal ⟨[(3, rb y249), (4, rl (.one (.int .i64)) y470), (5, .one (.vref 1 (Int.toNat (y470.length : Int)))), (10, ri (IntKind.wrap .i64 (s717 + 1)))], [(tsGraph.leaves y290), [.vec .bool y704.2]], [], 124⟩ := by kernel_rfl
def law03_GraphUses_l26_p : Option (Int ⊕ (Int ⊕ Unit)) := (bif (decide (s717 < (y470.length : Int))) then (Option.bind (law03_GraphUses_r28_p y470 y704 s717) (fun y719 : Unit => (bif (!((gt y704.2 s717 false) == (decide ((gt y470 s717 (0 : Int)) ≥ 0)))) then (some (Sum.inr (Sum.inr ()))) else (some (Sum.inl (IntKind.wrap .i64 (s717 + 1))))))) else (some (Sum.inr (Sum.inl s717))))
abbrev S45_24 (y720 : Int) : St := ⟨[(3, rb y249), (4, rl (.one (.int .i64)) y470), (5, .one (.vref 1 (Int.toNat (y470.length : Int)))), (10, ri y720)], [(tsGraph.leaves y290), [.vec .bool y704.2]], [], 124⟩
theorem law03_GraphUses_l26_b : R45 C45.r.r.r.r.r.r.r.r.r.l.r.b.b (S45_22 y249 y290 y470 y704 s717) (loopKont 2 q) = Option.bind (law03_GraphUses_l26_p y470 y704 s717) (either (fun y : Int => q .normal ⟨[(3, rb y249), (4, rl (.one (.int .i64)) y470), (5, .one (.vref 1 (Int.toNat (y470.length : Int)))), (10, ri y)], [(tsGraph.leaves y290), [.vec .bool y704.2]], [], 124⟩) (either (fun y720 : Int => q (.exit 6) (S45_24 y249 y290 y470 y704 y720)) (fun y721 : Unit => q .ret (S45_23 y290 y704)))) := by
  refine .trans ?_ (bif_b (bind_b fun y719 => (bif_b e3_2 e3_0)) e3_1)
  refine .trans seq_push ?_
  refine (pre1 (law03_GraphUses_fzx6 y249 y290 y470 y704 s717 _)).trans ?_
  refine (cond_e (b := (decide (s717 < (y470.length : Int)))) (st' := (S45_22 y249 y290 y470 y704 s717)) ).trans (bif_g ?_ ?_)
  · refine (skip_eq).trans ?_
    refine (seqC_normal (st' := (S45_22 y249 y290 y470 y704 s717))).trans ?_
    refine .trans seq_push ?_
    refine (block_push (id := 7)).trans ?_
    refine (pre1 (law03_GraphUses_r28 y249 y290 y470 y704 s717 _)).trans (bind_g fun y719 => ?_)
    refine (cond_e (b := (!((gt y704.2 s717 false) == (decide ((gt y470 s717 (0 : Int)) ≥ 0))))) (st' := (S45_22 y249 y290 y470 y704 s717)) ).trans (bif_g ?_ ?_)
    · refine (pre1 (law03_GraphUses_fzx7 y249 y290 y470 y704 s717 _)).trans ?_
      refine (ret_eq).trans ?_
      refine block_ret.trans ?_
      refine seqC_ret.trans ?_
      kernel_rfl
    · refine (skip_eq).trans ?_
      refine block_normal.trans ?_
      refine (seqC_normal (st' := (S45_22 y249 y290 y470 y704 s717))).trans ?_
      refine (law03_GraphUses_r27 y249 y290 y470 y704 s717 _).trans ?_
      kernel_rfl
  · refine ((exit_eq (j := 6))).trans ?_
    refine seqC_exit.trans ?_
    kernel_rfl
theorem law03_GraphUses_l26 : R45 C45.r.r.r.r.r.r.r.r.r.l.r.b (S45_21 y249 y290 y470 y704) q = Option.bind (iterN (law03_GraphUses_l26_p y470 y704) LL (0 : Int)) (either (fun y720 : Int => q (.exit 6) (S45_24 y249 y290 y470 y704 y720)) (fun y721 : Unit => q .ret (S45_23 y290 y704))) :=
  Eq.trans (by kernel_rfl) (loop_iter2 (S := fun s717 : Int => (S45_22 y249 y290 y470 y704 s717)) (Y1 := fun y720 : Int => ((.exit 6), (S45_24 y249 y290 y470 y704 y720))) (Y2 := fun y721 : Unit => (.ret, (S45_23 y290 y704))) (fun s q => law03_GraphUses_l26_b y249 y290 y470 y704 s q) (fun z => rfl) (fun z => rfl) LL (0 : Int))
theorem law03_GraphUses_fzx8 : P45 1 C45.r.r.r.r.r.r.r.r.r.r ⟨[(3, rb y249)], [(tsGraph.leaves y290), [.vec .bool y704.2]], [], 124⟩ k = k ⟨[(2, rb y249)], [(tsGraph.leaves y290), [.vec .bool y704.2]], [], 124⟩ := by kernel_rfl
/-- quilt/quiltlaw03.GraphUses -/
def law03_GraphUses : Option Bool := (Option.bind law03_shown (fun y249 : Bool => (Option.bind (law03_less g_) (fun y290 : Graph => (Option.bind (graph_Check y290) (fun y407 : Int => (bif (y407 != 0) then (some y249) else (Option.bind (graph_Last y290) (fun y470 : (List Int) => (bif (law03_GraphUses_r6_p y290 y470) then (some false) else (Option.bind (law03_GraphUses_r8_p y470) (fun y473 : Unit => (Option.bind (iterN (law03_GraphUses_l10_p y290 y470) LL ((0 : Int), (List.replicate (Int.toNat (y470.length : Int)) false))) (either (fun y672 : (Int × (List Bool)) => (Option.bind (iterN (law03_GraphUses_l20_p y290 y470) LL ((0 : Int), y672.2)) (either (fun y704 : (Int × (List Bool)) => (Option.bind (iterN (law03_GraphUses_l26_p y470 y704) LL (0 : Int)) (either (fun y720 : Int => (some y249)) (fun y721 : Unit => (some false))))) (fun y705 : (List Bool) => (some false))))) (fun y673 : (List Bool) => (some false))))))))))))))))
theorem law03_GraphUses_is : stepS E cp43 ce2 9 [rA tsGraph g_] = Option.bind (law03_GraphUses g_) (fun y : Bool => some (rb y : R)) := by
  refine .trans ?_ (bind_b fun y249 => (bind_b fun y290 => (bind_b fun y407 => (bif_b some_b (bind_b fun y470 => (bif_b some_b (bind_b fun y473 => (bind_b (either_b (fun y672 => (bind_b (either_b (fun y704 => (bind_b (either_b (fun y720 => some_b) (fun y721 => some_b)))) (fun y705 => some_b)))) (fun y673 => some_b))))))))))
  refine (stepG_is (nt := 124) (regs := [(0, rA tsGraph g_)])).trans ?_
  refine (pre2 (law03_GraphUses_r1 g_ _)).trans (bind_g fun y249 => ?_)
  refine (pre1 (law03_GraphUses_r2 g_ y249 _)).trans (bind_g fun y290 => ?_)
  refine .trans seq_push ?_
  refine (pre1 (law03_GraphUses_r3 y249 y290 _)).trans (bind_g fun y407 => ?_)
  refine (cond_e (b := (y407 != 0)) (st' := (S45_0 y249 y290)) ).trans (bif_g ?_ ?_)
  · refine (pre1 (law03_GraphUses_fz y249 y290 _)).trans ?_
    refine (ret_eq).trans ?_
    refine seqC_ret.trans ?_
    kernel_rfl
  · refine (skip_eq).trans ?_
    refine (seqC_normal (st' := (S45_0 y249 y290))).trans ?_
    refine (pre1 (law03_GraphUses_r5 y249 y290 _)).trans (bind_g fun y470 => ?_)
    refine .trans seq_push ?_
    refine (pre1 (law03_GraphUses_r6 y249 y290 y470 _)).trans ?_
    refine (cond_e (b := (law03_GraphUses_r6_p y290 y470)) (st' := (S45_1 y249 y290 y470)) ).trans (bif_g ?_ ?_)
    · refine (pre1 (law03_GraphUses_fzx1 y249 y290 y470 _)).trans ?_
      refine (ret_eq).trans ?_
      refine seqC_ret.trans ?_
      kernel_rfl
    · refine (skip_eq).trans ?_
      refine (seqC_normal (st' := (S45_1 y249 y290 y470))).trans ?_
      refine (pre1 (law03_GraphUses_r8 y249 y290 y470 _)).trans (bind_g fun y473 => ?_)
      refine .trans seq_push ?_
      refine (pre1 (law03_GraphUses_f10 y249 y290 y470 _)).trans ?_
      refine (block_push (id := 0)).trans ?_
      refine (law03_GraphUses_l10 y249 y290 y470 _).trans (bind_g (either_g (fun y672 => ?_) (fun y673 => ?_)))
      · refine block_same.trans ?_
        refine (seqC_normal (st' := (S45_14 y249 y290 y470 y672))).trans ?_
        refine .trans seq_push ?_
        refine (pre1 (law03_GraphUses_f20 y249 y290 y470 y672 _)).trans ?_
        refine (block_push (id := 4)).trans ?_
        refine (law03_GraphUses_l20 y249 y290 y470 y672 _).trans (bind_g (either_g (fun y704 => ?_) (fun y705 => ?_)))
        · refine block_same.trans ?_
          refine (seqC_normal (st' := (S45_20 y249 y290 y470 y704))).trans ?_
          refine .trans seq_push ?_
          refine (pre1 (law03_GraphUses_f26 y249 y290 y470 y704 _)).trans ?_
          refine (block_push (id := 6)).trans ?_
          refine (law03_GraphUses_l26 y249 y290 y470 y704 _).trans (bind_g (either_g (fun y720 => ?_) (fun y721 => ?_)))
          · refine block_same.trans ?_
            refine (seqC_normal (st' := ⟨[(3, rb y249)], [(tsGraph.leaves y290), [.vec .bool y704.2]], [], 124⟩)).trans ?_
            refine (pre1 (law03_GraphUses_fzx8 y249 y290 y704 _)).trans ?_
            refine (ret_eq).trans ?_
            kernel_rfl
          · refine block_ret.trans ?_
            refine seqC_ret.trans ?_
            kernel_rfl
        · refine block_ret.trans ?_
          refine seqC_ret.trans ?_
          kernel_rfl
      · refine block_ret.trans ?_
        refine seqC_ret.trans ?_
        kernel_rfl
noncomputable def cp44 : CallP := withC cp43 9 [(.agg tsGraph)] (.one pB) (fun y : Bool => y) (fun x => law03_GraphUses x.1)
theorem cp44_ok : PureOK E cp44 := conS eok cp43_ok ce2_ok fun x => Eq.mp (by kernel_rfl) (law03_GraphUses_is x.1)
theorem law03_GraphUses_walk (ht : law03_GraphUses g_ = some true) (w : World) (vs : List Value) (hrd : ∀ γ : Gh, Free γ → rdRs w γ [argR true tsGraph g_] vs) : Calls E.P 9 vs.toArray w fun e w' => e = .returned (.bool true) ∧ Below w.heap.size w w' :=
  walk_true (E := E) (stepS_ok eok cp43_ok ce2_ok) (show stepS E cp43 ce2 9 [rA tsGraph g_] = some (.one (.g .bool true)) from by rw [law03_GraphUses_is, ht]; rfl) w fun γ hγ => Eq.mp (by kernel_rfl) (hrd γ hγ)
end
end Go.V.P
