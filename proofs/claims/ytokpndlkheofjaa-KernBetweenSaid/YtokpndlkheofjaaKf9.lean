/- What functions compute. -/
import Derived.Test.YtokpndlkheofjaaKf6
namespace Go.V.P
open Go.RowKit Go.V Go.Proofs
set_option linter.unusedVariables false
set_option maxRecDepth 100000
section
variable {α β : Type} (x_ : Data) (w_ : A10) (y1515 : Bool) (y1516 : ((List I4) × A3 × Bool)) (s1543 : (Int × Int × (List Int) × Int)) (y1549 : (List Int)) (y1550 : (Int × Int × (List Int) × Int)) (y1552 : ((List Int) × Int)) (y1554 : ((List Int) × Int)) (y1556 : ((List Int) × Int)) (s1570 : Int) (k : St → Option α) (q : Kont α)
noncomputable abbrev C78 := codeOf E.P 7
noncomputable abbrev P78 := @preK α E 7 cp72 ce4
noncomputable abbrev R78 := @runCode α E 7 cp72 ce4
abbrev S78_0 : St := ⟨[(2, rC tsData x_), (3, rC tsA10 w_), (5, rb y1515)], [], [], 206⟩
theorem law05_KernBetween_r1 : P78 2 C78 ⟨[(0, rA tsData x_), (1, rA tsA10 w_)], [], [], 206⟩ k = Option.bind law05_shown fun y1515 : Bool => k (S78_0 x_ w_ y1515) := by kernel_rfl
abbrev S78_1 : St := ⟨[(3, rC tsA10 w_), (5, rb y1515), (6, rO tsI4 y1516.1 6), (7, rF 0), (8, rb y1516.2.2)], [(tsA3.leaves y1516.2.1)], [], 206⟩
theorem law05_KernBetween_r2 : P78 1 C78.r.r (S78_0 x_ w_ y1515) k = Option.bind (law05_pair x_) fun y1516 : ((List I4) × A3 × Bool) => k (S78_1 w_ y1515 y1516) := by kernel_rfl
def law05_KernBetween_r4_q (K : Int → β) : β := (K (IntKind.wrap .i64 ((1 : Int) + (IntKind.wrap .i64 (IntKind.wrap .u8 ((BitVec.ofInt (IntKind.bits .u8) w_.2 &&& BitVec.ofInt (IntKind.bits .u8) (1 : Int)).toNat : Int))))))
def law05_KernBetween_r4_p : Int := law05_KernBetween_r4_q w_ (fun y => y)
theorem law05_KernBetween_r4_n (K : Int → β) : law05_KernBetween_r4_q w_ K = K (law05_KernBetween_r4_p w_) := rfl
abbrev S78_2 : St := ⟨[(5, rb y1515), (6, rO tsI4 y1516.1 6), (7, rF 0), (8, rb y1516.2.2), (9, ri (IntKind.wrap .i64 ((1 : Int) + (Int.tmod (IntKind.wrap .i64 w_.1) (3 : Int))))), (10, ri (law05_KernBetween_r4_p w_))], [(tsA3.leaves y1516.2.1)], [], 206⟩
theorem law05_KernBetween_r4 : P78 2 C78.r.r.r (S78_1 w_ y1515 y1516) k = k (S78_2 w_ y1515 y1516) := Eq.trans (by kernel_rfl) (law05_KernBetween_r4_n w_ (fun y1517 : Int => k ⟨[(5, rb y1515), (6, rO tsI4 y1516.1 6), (7, rF 0), (8, rb y1516.2.2), (9, ri (IntKind.wrap .i64 ((1 : Int) + (Int.tmod (IntKind.wrap .i64 w_.1) (3 : Int))))), (10, ri y1517)], [(tsA3.leaves y1516.2.1)], [], 206⟩))
def law05_KernBetween_r5_p : Option Bool := (bif (!y1516.2.2) then (some true) else (bif (decide ((0 : Int) < (y1516.1.length : Int))) then (bif (decide ((IntKind.wrap .i64 ((1 : Int) + (Int.tmod (IntKind.wrap .i64 w_.1) (3 : Int)))) > ((gt y1516.1 (0 : Int) dI4).1))) then (some true) else (bif (decide ((0 : Int) < (y1516.1.length : Int))) then (some (decide ((IntKind.wrap .i64 ((1 : Int) + (Int.tmod (IntKind.wrap .i64 w_.1) (3 : Int)))) > ((gt y1516.1 (0 : Int) dI4).2.1)))) else none)) else none))
theorem law05_KernBetween_r5 : P78 1 C78.r.r.r.r.r.l (S78_2 w_ y1515 y1516) k = Option.bind (law05_KernBetween_r5_p w_ y1516) (fun y1519 : Bool => k ⟨[(5, rb y1515), (6, rO tsI4 y1516.1 6), (7, rF 0), (9, ri (IntKind.wrap .i64 ((1 : Int) + (Int.tmod (IntKind.wrap .i64 w_.1) (3 : Int))))), (10, ri (law05_KernBetween_r4_p w_)), (59, rb y1519)], [(tsA3.leaves y1516.2.1)], [], 206⟩) := .trans (by kernel_rfl) (bif_b some_b (bif_b (bif_b some_b (bif_b some_b none_b)) none_b))
abbrev S78_3 : St := ⟨[(5, rb y1515), (6, rO tsI4 y1516.1 6), (7, rF 0), (9, ri (IntKind.wrap .i64 ((1 : Int) + (Int.tmod (IntKind.wrap .i64 w_.1) (3 : Int))))), (10, ri (law05_KernBetween_r4_p w_))], [(tsA3.leaves y1516.2.1)], [], 206⟩
theorem law05_KernBetween_fz : P78 1 C78.r.r.r.r.r.l.r.t (S78_3 w_ y1515 y1516) k = k ⟨[(4, rb y1515)], [[]], [], 206⟩ := by kernel_rfl
def law05_KernBetween_r7_p : Option Unit := (bif (decide ((1 : Int) ≤ (y1516.1.length : Int))) then (some ()) else none)
abbrev S78_4 : St := ⟨[(5, rb y1515), (7, rF 0), (9, ri (IntKind.wrap .i64 ((1 : Int) + (Int.tmod (IntKind.wrap .i64 w_.1) (3 : Int))))), (10, ri (law05_KernBetween_r4_p w_)), (11, rl tsI4 ((y1516.1.take (Int.toNat (1 : Int))).drop (Int.toNat (0 : Int))))], [(tsA3.leaves y1516.2.1)], [], 206⟩
theorem law05_KernBetween_r7 : P78 1 C78.r.r.r.r.r.r (S78_3 w_ y1515 y1516) k = Option.bind (law05_KernBetween_r7_p y1516) (fun y1520 : Unit => k (S78_4 w_ y1515 y1516)) := .trans (by kernel_rfl) (bif_b some_b none_b)
abbrev S78_5 : St := ⟨[(5, rb y1515), (7, rF 0), (9, ri (IntKind.wrap .i64 ((1 : Int) + (Int.tmod (IntKind.wrap .i64 w_.1) (3 : Int))))), (10, ri (law05_KernBetween_r4_p w_)), (11, rl tsI4 ((y1516.1.take (Int.toNat (1 : Int))).drop (Int.toNat (0 : Int)))), (12, rk .i8 (127 : Int)), (13, rk .i8 (-128 : Int)), (14, .one (.ow (.one (.int .i8)) [] (.v 14)))], [(tsA3.leaves y1516.2.1)], [], 206⟩
theorem law05_KernBetween_f11 : P78 3 C78.r.r.r.r.r.r.r (S78_4 w_ y1515 y1516) k = k (S78_5 w_ y1515 y1516) := by kernel_rfl
abbrev S78_6 : St := ⟨[(5, rb y1515), (7, rF 0), (9, ri (IntKind.wrap .i64 ((1 : Int) + (Int.tmod (IntKind.wrap .i64 w_.1) (3 : Int))))), (10, ri (law05_KernBetween_r4_p w_)), (11, rl tsI4 ((y1516.1.take (Int.toNat (1 : Int))).drop (Int.toNat (0 : Int)))), (12, rk .i8 (127 : Int)), (13, rk .i8 (-128 : Int)), (14, .one (.ow (.one (.int .i8)) [] (.v 14))), (15, ri 0)], [(tsA3.leaves y1516.2.1)], [], 206⟩
theorem law05_KernBetween_f12 : P78 1 C78.r.r.r.r.r.r.r.r.r.r.l (S78_5 w_ y1515 y1516) k = k (S78_6 w_ y1515 y1516) := by kernel_rfl
abbrev S78_7 : St := ⟨[(5, rb y1515), (7, rF 0), (9, ri (IntKind.wrap .i64 ((1 : Int) + (Int.tmod (IntKind.wrap .i64 w_.1) (3 : Int))))), (10, ri (law05_KernBetween_r4_p w_)), (11, rl tsI4 ((y1516.1.take (Int.toNat (1 : Int))).drop (Int.toNat (0 : Int)))), (12, rk .i8 s1543.1), (13, rk .i8 s1543.2.1), (14, .one (.ow (.one (.int .i8)) s1543.2.2.1 (.v 14))), (15, ri s1543.2.2.2)], [(tsA3.leaves y1516.2.1)], [], 206⟩
theorem law05_KernBetween_fzx1 : P78 1 C78.r.r.r.r.r.r.r.r.r.r.l.r.b.b.l (S78_7 w_ y1515 y1516 s1543) k = k ⟨[(5, rb y1515), (7, rF 0), (9, ri (IntKind.wrap .i64 ((1 : Int) + (Int.tmod (IntKind.wrap .i64 w_.1) (3 : Int))))), (10, ri (law05_KernBetween_r4_p w_)), (11, rl tsI4 ((y1516.1.take (Int.toNat (1 : Int))).drop (Int.toNat (0 : Int)))), (12, rk .i8 s1543.1), (13, rk .i8 s1543.2.1), (14, .one (.ow (.one (.int .i8)) s1543.2.2.1 (.v 14))), (15, ri s1543.2.2.2), (68, rb (decide (s1543.2.2.2 < (y1516.2.1.1.length : Int))))], [(tsA3.leaves y1516.2.1)], [], 206⟩ := by kernel_rfl
def law05_KernBetween_r14_p : Option Unit := (bif (decide ((0 : Int) ≤ s1543.2.2.2)) then (bif (decide (s1543.2.2.2 < (y1516.2.1.1.length : Int))) then (some ()) else none) else none)
abbrev S78_8 : St := ⟨[(5, rb y1515), (7, rF 0), (9, ri (IntKind.wrap .i64 ((1 : Int) + (Int.tmod (IntKind.wrap .i64 w_.1) (3 : Int))))), (10, ri (law05_KernBetween_r4_p w_)), (11, rl tsI4 ((y1516.1.take (Int.toNat (1 : Int))).drop (Int.toNat (0 : Int)))), (12, rk .i8 (min s1543.1 (gt y1516.2.1.1 s1543.2.2.2 (0 : Int)))), (13, rk .i8 s1543.2.1), (14, .one (.ow (.one (.int .i8)) s1543.2.2.1 (.v 14))), (15, ri s1543.2.2.2)], [(tsA3.leaves y1516.2.1)], [], 206⟩
theorem law05_KernBetween_r14 : P78 1 C78.r.r.r.r.r.r.r.r.r.r.l.r.b.b.r.l.b (S78_7 w_ y1515 y1516 s1543) k = Option.bind (law05_KernBetween_r14_p y1516 s1543) (fun y1547 : Unit => k (S78_8 w_ y1515 y1516 s1543)) := .trans (by kernel_rfl) (bif_b (bif_b some_b none_b) none_b)
def law05_KernBetween_r15_p : Option Unit := (bif (decide ((0 : Int) ≤ s1543.2.2.2)) then (bif (decide (s1543.2.2.2 < (y1516.2.1.1.length : Int))) then (some ()) else none) else none)
abbrev S78_9 : St := ⟨[(5, rb y1515), (7, rF 0), (9, ri (IntKind.wrap .i64 ((1 : Int) + (Int.tmod (IntKind.wrap .i64 w_.1) (3 : Int))))), (10, ri (law05_KernBetween_r4_p w_)), (11, rl tsI4 ((y1516.1.take (Int.toNat (1 : Int))).drop (Int.toNat (0 : Int)))), (12, rk .i8 (min s1543.1 (gt y1516.2.1.1 s1543.2.2.2 (0 : Int)))), (13, rk .i8 (max s1543.2.1 (gt y1516.2.1.1 s1543.2.2.2 (0 : Int)))), (14, .one (.ow (.one (.int .i8)) s1543.2.2.1 (.v 14))), (15, ri s1543.2.2.2)], [(tsA3.leaves y1516.2.1)], [], 206⟩
theorem law05_KernBetween_r15 : P78 1 C78.r.r.r.r.r.r.r.r.r.r.l.r.b.b.r.l.b.r (S78_8 w_ y1515 y1516 s1543) k = Option.bind (law05_KernBetween_r15_p y1516 s1543) (fun y1548 : Unit => k (S78_9 w_ y1515 y1516 s1543)) := .trans (by kernel_rfl) (bif_b (bif_b some_b none_b) none_b)
def law05_KernBetween_r16_p : Option (List Int) := (bif (decide ((0 : Int) ≤ s1543.2.2.2)) then (bif (decide (s1543.2.2.2 < (y1516.2.1.1.length : Int))) then (bif (decide (s1543.2.2.1.length + ([(IntKind.wrap .i8 ((-1 : Int) - (gt y1516.2.1.1 s1543.2.2.2 (0 : Int))))] : List Int).length ≤ maxL)) then (some (s1543.2.2.1 ++ [(IntKind.wrap .i8 ((-1 : Int) - (gt y1516.2.1.1 s1543.2.2.2 (0 : Int))))])) else none) else none) else none)
abbrev S78_10 : St := ⟨[(5, rb y1515), (7, rF 0), (9, ri (IntKind.wrap .i64 ((1 : Int) + (Int.tmod (IntKind.wrap .i64 w_.1) (3 : Int))))), (10, ri (law05_KernBetween_r4_p w_)), (11, rl tsI4 ((y1516.1.take (Int.toNat (1 : Int))).drop (Int.toNat (0 : Int)))), (12, rk .i8 (min s1543.1 (gt y1516.2.1.1 s1543.2.2.2 (0 : Int)))), (13, rk .i8 (max s1543.2.1 (gt y1516.2.1.1 s1543.2.2.2 (0 : Int)))), (14, .one (.ow (.one (.int .i8)) y1549 (.v 14))), (15, ri s1543.2.2.2)], [(tsA3.leaves y1516.2.1)], [], 206⟩
theorem law05_KernBetween_r16 : R78 C78.r.r.r.r.r.r.r.r.r.r.l.r.b.b.r.l.b.r.r (S78_9 w_ y1515 y1516 s1543) q = Option.bind (law05_KernBetween_r16_p y1516 s1543) (fun y1549 : (List Int) => q .normal (S78_10 w_ y1515 y1516 s1543 y1549)) := .trans (by kernel_rfl) (bif_b (bif_b (bif_b some_b none_b) none_b) none_b)
theorem law05_KernBetween_r13 : R78 C78.r.r.r.r.r.r.r.r.r.r.l.r.b.b.r.r (S78_10 w_ y1515 y1516 s1543 y1549) q = q .normal ⟨[(5, rb y1515), (7, rF 0), (9, ri (IntKind.wrap .i64 ((1 : Int) + (Int.tmod (IntKind.wrap .i64 w_.1) (3 : Int))))), (10, ri (law05_KernBetween_r4_p w_)), (11, rl tsI4 ((y1516.1.take (Int.toNat (1 : Int))).drop (Int.toNat (0 : Int)))), (12, rk .i8 (min s1543.1 (gt y1516.2.1.1 s1543.2.2.2 (0 : Int)))), (13, rk .i8 (max s1543.2.1 (gt y1516.2.1.1 s1543.2.2.2 (0 : Int)))), (14, .one (.ow (.one (.int .i8)) y1549 (.v 14))), (15, ri (IntKind.wrap .i64 (s1543.2.2.2 + 1)))], [(tsA3.leaves y1516.2.1)], [], 206⟩ := by kernel_rfl
def law05_KernBetween_l12_p : Option ((Int × Int × (List Int) × Int) ⊕ (Int × Int × (List Int) × Int)) := (bif (decide (s1543.2.2.2 < (y1516.2.1.1.length : Int))) then (Option.bind (law05_KernBetween_r14_p y1516 s1543) (fun y1547 : Unit => (Option.bind (law05_KernBetween_r15_p y1516 s1543) (fun y1548 : Unit => (Option.bind (law05_KernBetween_r16_p y1516 s1543) (fun y1549 : (List Int) => (some (Sum.inl ((min s1543.1 (gt y1516.2.1.1 s1543.2.2.2 (0 : Int))), (max s1543.2.1 (gt y1516.2.1.1 s1543.2.2.2 (0 : Int))), y1549, (IntKind.wrap .i64 (s1543.2.2.2 + 1))))))))))) else (some (Sum.inr s1543)))
abbrev S78_11 : St := ⟨[(5, rb y1515), (7, rF 0), (9, ri (IntKind.wrap .i64 ((1 : Int) + (Int.tmod (IntKind.wrap .i64 w_.1) (3 : Int))))), (10, ri (law05_KernBetween_r4_p w_)), (11, rl tsI4 ((y1516.1.take (Int.toNat (1 : Int))).drop (Int.toNat (0 : Int)))), (12, rk .i8 y1550.1), (13, rk .i8 y1550.2.1), (14, .one (.ow (.one (.int .i8)) y1550.2.2.1 (.v 14))), (15, ri y1550.2.2.2)], [(tsA3.leaves y1516.2.1)], [], 206⟩
theorem law05_KernBetween_l12_b : R78 C78.r.r.r.r.r.r.r.r.r.r.l.r.b.b (S78_7 w_ y1515 y1516 s1543) (loopKont 1 q) = Option.bind (law05_KernBetween_l12_p y1516 s1543) (either (fun y : (Int × Int × (List Int) × Int) => q .normal ⟨[(5, rb y1515), (7, rF 0), (9, ri (IntKind.wrap .i64 ((1 : Int) + (Int.tmod (IntKind.wrap .i64 w_.1) (3 : Int))))), (10, ri (law05_KernBetween_r4_p w_)), (11, rl tsI4 ((y1516.1.take (Int.toNat (1 : Int))).drop (Int.toNat (0 : Int)))), (12, rk .i8 y.1), (13, rk .i8 y.2.1), (14, .one (.ow (.one (.int .i8)) y.2.2.1 (.v 14))), (15, ri y.2.2.2)], [(tsA3.leaves y1516.2.1)], [], 206⟩) (fun y1550 : (Int × Int × (List Int) × Int) => q (.exit 0) (S78_11 w_ y1515 y1516 y1550))) := by
  refine .trans ?_ (bif_b (bind_b fun y1547 => (bind_b fun y1548 => (bind_b fun y1549 => e2_0))) e2_1)
  refine .trans seq_push ?_
  refine (pre1 (law05_KernBetween_fzx1 w_ y1515 y1516 s1543 _)).trans ?_
  refine (cond_e (b := (decide (s1543.2.2.2 < (y1516.2.1.1.length : Int)))) (st' := (S78_7 w_ y1515 y1516 s1543)) ).trans (bif_g ?_ ?_)
  · refine (skip_eq).trans ?_
    refine (seqC_normal (st' := (S78_7 w_ y1515 y1516 s1543))).trans ?_
    refine .trans seq_push ?_
    refine (block_push (id := 1)).trans ?_
    refine (pre1 (law05_KernBetween_r14 w_ y1515 y1516 s1543 _)).trans (bind_g fun y1547 => ?_)
    refine (pre1 (law05_KernBetween_r15 w_ y1515 y1516 s1543 _)).trans (bind_g fun y1548 => ?_)
    refine (law05_KernBetween_r16 w_ y1515 y1516 s1543 _).trans (bind_g fun y1549 => ?_)
    refine block_normal.trans ?_
    refine (seqC_normal (st' := (S78_10 w_ y1515 y1516 s1543 y1549))).trans ?_
    refine (law05_KernBetween_r13 w_ y1515 y1516 s1543 y1549 _).trans ?_
    kernel_rfl
  · refine ((exit_eq (j := 0))).trans ?_
    refine seqC_exit.trans ?_
    kernel_rfl
theorem law05_KernBetween_l12 : R78 C78.r.r.r.r.r.r.r.r.r.r.l.r.b (S78_6 w_ y1515 y1516) q = Option.bind (iterN (law05_KernBetween_l12_p y1516) LL ((127 : Int), (-128 : Int), [], (0 : Int))) (fun y1550 : (Int × Int × (List Int) × Int) => q (.exit 0) (S78_11 w_ y1515 y1516 y1550)) :=
  Eq.trans (by kernel_rfl) (loop_iter1 (S := fun s1543 : (Int × Int × (List Int) × Int) => (S78_7 w_ y1515 y1516 s1543)) (Y1 := fun y1550 : (Int × Int × (List Int) × Int) => ((.exit 0), (S78_11 w_ y1515 y1516 y1550))) (fun s q => law05_KernBetween_l12_b w_ y1515 y1516 s q) (fun z => rfl) LL ((127 : Int), (-128 : Int), [], (0 : Int)))
def law05_KernBetween_r17_p : Option ((List Int) × Int) := (bif (decide ((0 : Int) < (((y1516.1.take (Int.toNat (1 : Int))).drop (Int.toNat (0 : Int))).length : Int))) then (Option.bind (kern_All ((4 : Int), [], (IntKind.wrap .i64 ((1 : Int) + (Int.tmod (IntKind.wrap .i64 w_.1) (3 : Int)))), (law05_KernBetween_r4_p w_), (0 : Int), (0 : Int), (1 : Int), (0 : Int), (gt ((y1516.1.take (Int.toNat (1 : Int))).drop (Int.toNat (0 : Int))) (0 : Int) dI4).2.2.2, (0 : Int), (0 : Int), (0 : Int), [], []) ((y1516.1.take (Int.toNat (1 : Int))).drop (Int.toNat (0 : Int))) (y1516.2.1.1, [])) (fun y1551 : ((List Int) × Int) => (some y1551))) else none)
abbrev S78_12 : St := ⟨[(5, rb y1515), (7, rF 0), (9, ri (IntKind.wrap .i64 ((1 : Int) + (Int.tmod (IntKind.wrap .i64 w_.1) (3 : Int))))), (10, ri (law05_KernBetween_r4_p w_)), (11, rl tsI4 ((y1516.1.take (Int.toNat (1 : Int))).drop (Int.toNat (0 : Int)))), (12, rk .i8 y1550.1), (13, rk .i8 y1550.2.1), (14, .one (.ow (.one (.int .i8)) y1550.2.2.1 (.v 14)))], [(tsA3.leaves y1516.2.1)], [], 206⟩
abbrev S78_13 : St := ⟨[(5, rb y1515), (7, rF 0), (9, ri (IntKind.wrap .i64 ((1 : Int) + (Int.tmod (IntKind.wrap .i64 w_.1) (3 : Int))))), (10, ri (law05_KernBetween_r4_p w_)), (11, rl tsI4 ((y1516.1.take (Int.toNat (1 : Int))).drop (Int.toNat (0 : Int)))), (12, rk .i8 y1550.1), (13, rk .i8 y1550.2.1), (14, .one (.ow (.one (.int .i8)) y1550.2.2.1 (.v 14))), (16, .one (.ow (.one (.int .i8)) y1552.1 (.v 16))), (17, ri y1552.2)], [(tsA3.leaves y1516.2.1)], [], 206⟩
theorem law05_KernBetween_r17 : P78 1 C78.r.r.r.r.r.r.r.r.r.r.r (S78_12 w_ y1515 y1516 y1550) k = Option.bind (law05_KernBetween_r17_p w_ y1516) (fun y1552 : ((List Int) × Int) => k (S78_13 w_ y1515 y1516 y1550 y1552)) := .trans (by kernel_rfl) (bif_b (bind_b fun y1551 => some_b) none_b)
def law05_KernBetween_r18_p : Option ((List Int) × Int) := (bif (decide ((0 : Int) < (((y1516.1.take (Int.toNat (1 : Int))).drop (Int.toNat (0 : Int))).length : Int))) then (Option.bind (kern_All ((5 : Int), [], (IntKind.wrap .i64 ((1 : Int) + (Int.tmod (IntKind.wrap .i64 w_.1) (3 : Int)))), (law05_KernBetween_r4_p w_), (0 : Int), (0 : Int), (1 : Int), (0 : Int), (gt ((y1516.1.take (Int.toNat (1 : Int))).drop (Int.toNat (0 : Int))) (0 : Int) dI4).2.2.2, (0 : Int), (0 : Int), (0 : Int), [], []) ((y1516.1.take (Int.toNat (1 : Int))).drop (Int.toNat (0 : Int))) (y1516.2.1.1, [])) (fun y1553 : ((List Int) × Int) => (some y1553))) else none)
abbrev S78_14 : St := ⟨[(5, rb y1515), (9, ri (IntKind.wrap .i64 ((1 : Int) + (Int.tmod (IntKind.wrap .i64 w_.1) (3 : Int))))), (10, ri (law05_KernBetween_r4_p w_)), (11, rl tsI4 ((y1516.1.take (Int.toNat (1 : Int))).drop (Int.toNat (0 : Int)))), (12, rk .i8 y1550.1), (13, rk .i8 y1550.2.1), (14, .one (.ow (.one (.int .i8)) y1550.2.2.1 (.v 14))), (16, .one (.ow (.one (.int .i8)) y1552.1 (.v 16))), (17, ri y1552.2), (18, .one (.ow (.one (.int .i8)) y1554.1 (.v 18))), (19, ri y1554.2)], [[]], [], 206⟩
theorem law05_KernBetween_r18 : P78 1 C78.r.r.r.r.r.r.r.r.r.r.r.r (S78_13 w_ y1515 y1516 y1550 y1552) k = Option.bind (law05_KernBetween_r18_p w_ y1516) (fun y1554 : ((List Int) × Int) => k (S78_14 w_ y1515 y1516 y1550 y1552 y1554)) := .trans (by kernel_rfl) (bif_b (bind_b fun y1553 => some_b) none_b)
def law05_KernBetween_r19_p : Option ((List Int) × Int) := (bif (decide ((0 : Int) < (((y1516.1.take (Int.toNat (1 : Int))).drop (Int.toNat (0 : Int))).length : Int))) then (Option.bind (kern_All ((4 : Int), [], (IntKind.wrap .i64 ((1 : Int) + (Int.tmod (IntKind.wrap .i64 w_.1) (3 : Int)))), (law05_KernBetween_r4_p w_), (0 : Int), (0 : Int), (1 : Int), (0 : Int), (gt ((y1516.1.take (Int.toNat (1 : Int))).drop (Int.toNat (0 : Int))) (0 : Int) dI4).2.2.2, (0 : Int), (0 : Int), (0 : Int), [], []) ((y1516.1.take (Int.toNat (1 : Int))).drop (Int.toNat (0 : Int))) (y1550.2.2.1, [])) (fun y1555 : ((List Int) × Int) => (some y1555))) else none)
abbrev S78_15 : St := ⟨[(5, rb y1515), (12, rk .i8 y1550.1), (13, rk .i8 y1550.2.1), (16, .one (.ow (.one (.int .i8)) y1552.1 (.v 16))), (17, ri y1552.2), (18, .one (.ow (.one (.int .i8)) y1554.1 (.v 18))), (19, ri y1554.2), (20, .one (.ow (.one (.int .i8)) y1556.1 (.v 20))), (21, ri y1556.2)], [[]], [], 206⟩
theorem law05_KernBetween_r19 : P78 1 C78.r.r.r.r.r.r.r.r.r.r.r.r.r (S78_14 w_ y1515 y1516 y1550 y1552 y1554) k = Option.bind (law05_KernBetween_r19_p w_ y1516 y1550) (fun y1556 : ((List Int) × Int) => k (S78_15 y1515 y1550 y1552 y1554 y1556)) := .trans (by kernel_rfl) (bif_b (bind_b fun y1555 => some_b) none_b)
def law05_KernBetween_r20_q (K : Bool → β) : β := (bif (y1552.2 != 0) then (K true) else (bif (y1554.2 != 0) then (K true) else (bif (y1556.2 != 0) then (K true) else (bif ((y1552.1.length : Int) != (y1554.1.length : Int)) then (K true) else (K ((y1552.1.length : Int) != (y1556.1.length : Int)))))))
def law05_KernBetween_r20_p : Bool := law05_KernBetween_r20_q y1552 y1554 y1556 (fun y => y)
theorem law05_KernBetween_r20_n (K : Bool → β) : law05_KernBetween_r20_q y1552 y1554 y1556 K = K (law05_KernBetween_r20_p y1552 y1554 y1556) := (bif_k K rfl (bif_k K rfl (bif_k K rfl (bif_k K rfl rfl))))
theorem law05_KernBetween_r20 : P78 1 C78.r.r.r.r.r.r.r.r.r.r.r.r.r.r.l (S78_15 y1515 y1550 y1552 y1554 y1556) k = k ⟨[(5, rb y1515), (12, rk .i8 y1550.1), (13, rk .i8 y1550.2.1), (16, .one (.ow (.one (.int .i8)) y1552.1 (.v 16))), (18, .one (.ow (.one (.int .i8)) y1554.1 (.v 18))), (20, .one (.ow (.one (.int .i8)) y1556.1 (.v 20))), (161, rb (law05_KernBetween_r20_p y1552 y1554 y1556))], [[]], [], 206⟩ := Eq.trans (by kernel_rfl) (law05_KernBetween_r20_n y1552 y1554 y1556 (fun y1558 : Bool => k ⟨[(5, rb y1515), (12, rk .i8 y1550.1), (13, rk .i8 y1550.2.1), (16, .one (.ow (.one (.int .i8)) y1552.1 (.v 16))), (18, .one (.ow (.one (.int .i8)) y1554.1 (.v 18))), (20, .one (.ow (.one (.int .i8)) y1556.1 (.v 20))), (161, rb y1558)], [[]], [], 206⟩))
abbrev S78_16 : St := ⟨[(5, rb y1515), (12, rk .i8 y1550.1), (13, rk .i8 y1550.2.1), (16, .one (.ow (.one (.int .i8)) y1552.1 (.v 16))), (18, .one (.ow (.one (.int .i8)) y1554.1 (.v 18))), (20, .one (.ow (.one (.int .i8)) y1556.1 (.v 20)))], [[]], [], 206⟩
abbrev S78_17 : St := ⟨[(4, rb false)], [[]], [], 206⟩
theorem law05_KernBetween_fzx2 : P78 1 C78.r.r.r.r.r.r.r.r.r.r.r.r.r.r.l.r.t (S78_16 y1515 y1550 y1552 y1554 y1556) k = k S78_17 := by kernel_rfl
abbrev S78_18 : St := ⟨[(5, rb y1515), (12, rk .i8 y1550.1), (13, rk .i8 y1550.2.1), (16, .one (.ow (.one (.int .i8)) y1552.1 (.v 16))), (18, .one (.ow (.one (.int .i8)) y1554.1 (.v 18))), (20, .one (.ow (.one (.int .i8)) y1556.1 (.v 20))), (22, ri 0)], [[]], [], 206⟩
theorem law05_KernBetween_f23 : P78 1 C78.r.r.r.r.r.r.r.r.r.r.r.r.r.r.r.l (S78_16 y1515 y1550 y1552 y1554 y1556) k = k (S78_18 y1515 y1550 y1552 y1554 y1556) := by kernel_rfl
abbrev S78_19 : St := ⟨[(5, rb y1515), (12, rk .i8 y1550.1), (13, rk .i8 y1550.2.1), (16, .one (.ow (.one (.int .i8)) y1552.1 (.v 16))), (18, .one (.ow (.one (.int .i8)) y1554.1 (.v 18))), (20, .one (.ow (.one (.int .i8)) y1556.1 (.v 20))), (22, ri s1570)], [[]], [], 206⟩
theorem law05_KernBetween_fzx3 : P78 1 C78.r.r.r.r.r.r.r.r.r.r.r.r.r.r.r.l.r.b.b.l (S78_19 y1515 y1550 y1552 y1554 y1556 s1570) k = k ⟨[(5, rb y1515), (12, rk .i8 y1550.1), (13, rk .i8 y1550.2.1), (16, .one (.ow (.one (.int .i8)) y1552.1 (.v 16))), (18, .one (.ow (.one (.int .i8)) y1554.1 (.v 18))), (20, .one (.ow (.one (.int .i8)) y1556.1 (.v 20))), (22, ri s1570), (165, rb (decide (s1570 < (y1552.1.length : Int))))], [[]], [], 206⟩ := by kernel_rfl
def law05_KernBetween_r25_p : Option Bool := (bif (decide ((0 : Int) ≤ s1570)) then (bif (decide (s1570 < (y1554.1.length : Int))) then (bif (decide ((0 : Int) ≤ s1570)) then (bif (decide (s1570 < (y1552.1.length : Int))) then (bif (decide ((gt y1554.1 s1570 (0 : Int)) > (gt y1552.1 s1570 (0 : Int)))) then (some true) else (bif (decide ((0 : Int) ≤ s1570)) then (bif (decide (s1570 < (y1554.1.length : Int))) then (bif (decide ((0 : Int) ≤ s1570)) then (bif (decide (s1570 < (y1556.1.length : Int))) then (bif (decide ((gt y1554.1 s1570 (0 : Int)) < (IntKind.wrap .i8 ((-1 : Int) - (gt y1556.1 s1570 (0 : Int)))))) then (some true) else (bif (decide ((0 : Int) ≤ s1570)) then (bif (decide (s1570 < (y1552.1.length : Int))) then (bif (decide ((gt y1552.1 s1570 (0 : Int)) > y1550.2.1)) then (some true) else (bif (decide ((0 : Int) ≤ s1570)) then (bif (decide (s1570 < (y1554.1.length : Int))) then (some (decide ((gt y1554.1 s1570 (0 : Int)) < y1550.1))) else none) else none)) else none) else none)) else none) else none) else none) else none)) else none) else none) else none) else none)
theorem law05_KernBetween_r25 : P78 1 C78.r.r.r.r.r.r.r.r.r.r.r.r.r.r.r.l.r.b.b.r.l.b (S78_19 y1515 y1550 y1552 y1554 y1556 s1570) k = Option.bind (law05_KernBetween_r25_p y1550 y1552 y1554 y1556 s1570) (fun y1572 : Bool => k ⟨[(5, rb y1515), (12, rk .i8 y1550.1), (13, rk .i8 y1550.2.1), (16, .one (.ow (.one (.int .i8)) y1552.1 (.v 16))), (18, .one (.ow (.one (.int .i8)) y1554.1 (.v 18))), (20, .one (.ow (.one (.int .i8)) y1556.1 (.v 20))), (22, ri s1570), (204, rb y1572)], [[]], [], 206⟩) := .trans (by kernel_rfl) (bif_b (bif_b (bif_b (bif_b (bif_b some_b (bif_b (bif_b (bif_b (bif_b (bif_b some_b (bif_b (bif_b (bif_b some_b (bif_b (bif_b some_b none_b) none_b)) none_b) none_b)) none_b) none_b) none_b) none_b)) none_b) none_b) none_b) none_b)
theorem law05_KernBetween_fzx4 : P78 1 C78.r.r.r.r.r.r.r.r.r.r.r.r.r.r.r.l.r.b.b.r.l.b.r.t (S78_19 y1515 y1550 y1552 y1554 y1556 s1570) k = k S78_17 := by kernel_rfl
theorem law05_KernBetween_r24 : R78 C78.r.r.r.r.r.r.r.r.r.r.r.r.r.r.r.l.r.b.b.r.r (S78_19 y1515 y1550 y1552 y1554 y1556 s1570) q = q .normal ⟨[(5, rb y1515), (12, rk .i8 y1550.1), (13, rk .i8 y1550.2.1), (16, .one (.ow (.one (.int .i8)) y1552.1 (.v 16))), (18, .one (.ow (.one (.int .i8)) y1554.1 (.v 18))), (20, .one (.ow (.one (.int .i8)) y1556.1 (.v 20))), (22, ri (IntKind.wrap .i64 (s1570 + 1)))], [[]], [], 206⟩ := by kernel_rfl
def law05_KernBetween_l23_p : Option (Int ⊕ (Int ⊕ Unit)) := (bif (decide (s1570 < (y1552.1.length : Int))) then (Option.bind (law05_KernBetween_r25_p y1550 y1552 y1554 y1556 s1570) (fun y1572 : Bool => (bif y1572 then (some (Sum.inr (Sum.inr ()))) else (some (Sum.inl (IntKind.wrap .i64 (s1570 + 1))))))) else (some (Sum.inr (Sum.inl s1570))))
abbrev S78_20 (y1573 : Int) : St := ⟨[(5, rb y1515), (12, rk .i8 y1550.1), (13, rk .i8 y1550.2.1), (16, .one (.ow (.one (.int .i8)) y1552.1 (.v 16))), (18, .one (.ow (.one (.int .i8)) y1554.1 (.v 18))), (20, .one (.ow (.one (.int .i8)) y1556.1 (.v 20))), (22, ri y1573)], [[]], [], 206⟩
theorem law05_KernBetween_l23_b : R78 C78.r.r.r.r.r.r.r.r.r.r.r.r.r.r.r.l.r.b.b (S78_19 y1515 y1550 y1552 y1554 y1556 s1570) (loopKont 1 q) = Option.bind (law05_KernBetween_l23_p y1550 y1552 y1554 y1556 s1570) (either (fun y : Int => q .normal ⟨[(5, rb y1515), (12, rk .i8 y1550.1), (13, rk .i8 y1550.2.1), (16, .one (.ow (.one (.int .i8)) y1552.1 (.v 16))), (18, .one (.ow (.one (.int .i8)) y1554.1 (.v 18))), (20, .one (.ow (.one (.int .i8)) y1556.1 (.v 20))), (22, ri y)], [[]], [], 206⟩) (either (fun y1573 : Int => q (.exit 2) (S78_20 y1515 y1550 y1552 y1554 y1556 y1573)) (fun y1574 : Unit => q .ret S78_17))) := by
  refine .trans ?_ (bif_b (bind_b fun y1572 => (bif_b e3_2 e3_0)) e3_1)
  refine .trans seq_push ?_
  refine (pre1 (law05_KernBetween_fzx3 y1515 y1550 y1552 y1554 y1556 s1570 _)).trans ?_
  refine (cond_e (b := (decide (s1570 < (y1552.1.length : Int)))) (st' := (S78_19 y1515 y1550 y1552 y1554 y1556 s1570)) ).trans (bif_g ?_ ?_)
  · refine (skip_eq).trans ?_
    refine (seqC_normal (st' := (S78_19 y1515 y1550 y1552 y1554 y1556 s1570))).trans ?_
    refine .trans seq_push ?_
    refine (block_push (id := 3)).trans ?_
    refine (pre1 (law05_KernBetween_r25 y1515 y1550 y1552 y1554 y1556 s1570 _)).trans (bind_g fun y1572 => ?_)
    refine (cond_e (b := y1572) (st' := (S78_19 y1515 y1550 y1552 y1554 y1556 s1570)) ).trans (bif_g ?_ ?_)
    · refine (pre1 (law05_KernBetween_fzx4 y1515 y1550 y1552 y1554 y1556 s1570 _)).trans ?_
      refine (ret_eq).trans ?_
      refine block_ret.trans ?_
      refine seqC_ret.trans ?_
      kernel_rfl
    · refine (skip_eq).trans ?_
      refine block_normal.trans ?_
      refine (seqC_normal (st' := (S78_19 y1515 y1550 y1552 y1554 y1556 s1570))).trans ?_
      refine (law05_KernBetween_r24 y1515 y1550 y1552 y1554 y1556 s1570 _).trans ?_
      kernel_rfl
  · refine ((exit_eq (j := 2))).trans ?_
    refine seqC_exit.trans ?_
    kernel_rfl
theorem law05_KernBetween_l23 : R78 C78.r.r.r.r.r.r.r.r.r.r.r.r.r.r.r.l.r.b (S78_18 y1515 y1550 y1552 y1554 y1556) q = Option.bind (iterN (law05_KernBetween_l23_p y1550 y1552 y1554 y1556) LL (0 : Int)) (either (fun y1573 : Int => q (.exit 2) (S78_20 y1515 y1550 y1552 y1554 y1556 y1573)) (fun y1574 : Unit => q .ret S78_17)) :=
  Eq.trans (by kernel_rfl) (loop_iter2 (S := fun s1570 : Int => (S78_19 y1515 y1550 y1552 y1554 y1556 s1570)) (Y1 := fun y1573 : Int => ((.exit 2), (S78_20 y1515 y1550 y1552 y1554 y1556 y1573))) (Y2 := fun y1574 : Unit => (.ret, S78_17)) (fun s q => law05_KernBetween_l23_b y1515 y1550 y1552 y1554 y1556 s q) (fun z => rfl) (fun z => rfl) LL (0 : Int))
theorem law05_KernBetween_fzx5 : P78 1 C78.r.r.r.r.r.r.r.r.r.r.r.r.r.r.r.r ⟨[(5, rb y1515)], [[]], [], 206⟩ k = k ⟨[(4, rb y1515)], [[]], [], 206⟩ := by kernel_rfl
/-- quilt/quiltlaw05.KernBetween -/
def law05_KernBetween : Option Bool := (Option.bind law05_shown (fun y1515 : Bool => (Option.bind (law05_pair x_) (fun y1516 : ((List I4) × A3 × Bool) => (Option.bind (law05_KernBetween_r5_p w_ y1516) (fun y1519 : Bool => (bif y1519 then (some y1515) else (Option.bind (law05_KernBetween_r7_p y1516) (fun y1520 : Unit => (Option.bind (iterN (law05_KernBetween_l12_p y1516) LL ((127 : Int), (-128 : Int), [], (0 : Int))) (fun y1550 : (Int × Int × (List Int) × Int) => (Option.bind (law05_KernBetween_r17_p w_ y1516) (fun y1552 : ((List Int) × Int) => (Option.bind (law05_KernBetween_r18_p w_ y1516) (fun y1554 : ((List Int) × Int) => (Option.bind (law05_KernBetween_r19_p w_ y1516 y1550) (fun y1556 : ((List Int) × Int) => (bif (law05_KernBetween_r20_p y1552 y1554 y1556) then (some false) else (Option.bind (iterN (law05_KernBetween_l23_p y1550 y1552 y1554 y1556) LL (0 : Int)) (either (fun y1573 : Int => (some y1515)) (fun y1574 : Unit => (some false))))))))))))))))))))))
theorem law05_KernBetween_is : stepS E cp72 ce4 7 [rA tsData x_, rA tsA10 w_] = Option.bind (law05_KernBetween x_ w_) (fun y : Bool => some (rb y : R)) := by
  refine .trans ?_ (bind_b fun y1515 => (bind_b fun y1516 => (bind_b fun y1519 => (bif_b some_b (bind_b fun y1520 => (bind_b fun y1550 => (bind_b fun y1552 => (bind_b fun y1554 => (bind_b fun y1556 => (bif_b some_b (bind_b (either_b (fun y1573 => some_b) (fun y1574 => some_b)))))))))))))
  refine (stepG_is (nt := 206) (regs := [(0, rA tsData x_), (1, rA tsA10 w_)])).trans ?_
  refine (pre2 (law05_KernBetween_r1 x_ w_ _)).trans (bind_g fun y1515 => ?_)
  refine (pre1 (law05_KernBetween_r2 x_ w_ y1515 _)).trans (bind_g fun y1516 => ?_)
  refine (pre2 (law05_KernBetween_r4 w_ y1515 y1516 _)).trans ?_
  refine .trans seq_push ?_
  refine (pre1 (law05_KernBetween_r5 w_ y1515 y1516 _)).trans (bind_g fun y1519 => ?_)
  refine (cond_e (b := y1519) (st' := (S78_3 w_ y1515 y1516)) ).trans (bif_g ?_ ?_)
  · refine (pre1 (law05_KernBetween_fz w_ y1515 y1516 _)).trans ?_
    refine (ret_eq).trans ?_
    refine seqC_ret.trans ?_
    kernel_rfl
  · refine (skip_eq).trans ?_
    refine (seqC_normal (st' := (S78_3 w_ y1515 y1516))).trans ?_
    refine (pre1 (law05_KernBetween_r7 w_ y1515 y1516 _)).trans (bind_g fun y1520 => ?_)
    refine (pre3 (law05_KernBetween_f11 w_ y1515 y1516 _)).trans ?_
    refine .trans seq_push ?_
    refine (pre1 (law05_KernBetween_f12 w_ y1515 y1516 _)).trans ?_
    refine (block_push (id := 0)).trans ?_
    refine (law05_KernBetween_l12 w_ y1515 y1516 _).trans (bind_g fun y1550 => ?_)
    refine block_same.trans ?_
    refine (seqC_normal (st' := (S78_12 w_ y1515 y1516 y1550))).trans ?_
    refine (pre1 (law05_KernBetween_r17 w_ y1515 y1516 y1550 _)).trans (bind_g fun y1552 => ?_)
    refine (pre1 (law05_KernBetween_r18 w_ y1515 y1516 y1550 y1552 _)).trans (bind_g fun y1554 => ?_)
    refine (pre1 (law05_KernBetween_r19 w_ y1515 y1516 y1550 y1552 y1554 _)).trans (bind_g fun y1556 => ?_)
    refine .trans seq_push ?_
    refine (pre1 (law05_KernBetween_r20 y1515 y1550 y1552 y1554 y1556 _)).trans ?_
    refine (cond_e (b := (law05_KernBetween_r20_p y1552 y1554 y1556)) (st' := (S78_16 y1515 y1550 y1552 y1554 y1556)) ).trans (bif_g ?_ ?_)
    · refine (pre1 (law05_KernBetween_fzx2 y1515 y1550 y1552 y1554 y1556 _)).trans ?_
      refine (ret_eq).trans ?_
      refine seqC_ret.trans ?_
      kernel_rfl
    · refine (skip_eq).trans ?_
      refine (seqC_normal (st' := (S78_16 y1515 y1550 y1552 y1554 y1556))).trans ?_
      refine .trans seq_push ?_
      refine (pre1 (law05_KernBetween_f23 y1515 y1550 y1552 y1554 y1556 _)).trans ?_
      refine (block_push (id := 2)).trans ?_
      refine (law05_KernBetween_l23 y1515 y1550 y1552 y1554 y1556 _).trans (bind_g (either_g (fun y1573 => ?_) (fun y1574 => ?_)))
      · refine block_same.trans ?_
        refine (seqC_normal (st' := ⟨[(5, rb y1515)], [[]], [], 206⟩)).trans ?_
        refine (pre1 (law05_KernBetween_fzx5 y1515 _)).trans ?_
        refine (ret_eq).trans ?_
        kernel_rfl
      · refine block_ret.trans ?_
        refine seqC_ret.trans ?_
        kernel_rfl
noncomputable def cp75 : CallP := withC cp72 7 [(.agg tsData), (.agg tsA10)] (.one pB) (fun y : Bool => y) (fun x => law05_KernBetween x.1 x.2.1)
theorem cp75_ok : PureOK E cp75 := conS eok cp72_ok ce4_ok fun x => Eq.mp (by kernel_rfl) (law05_KernBetween_is x.1 x.2.1)
theorem law05_KernBetween_walk (ht : law05_KernBetween x_ w_ = some true) (w : World) (vs : List Value) (hrd : ∀ γ : Gh, Free γ → rdRs w γ [argR true tsData x_, argR true tsA10 w_] vs) : Calls E.P 7 vs.toArray w fun e w' => e = .returned (.bool true) ∧ Below w.heap.size w w' :=
  walk_true (E := E) (stepS_ok eok cp72_ok ce4_ok) (show stepS E cp72 ce4 7 [rA tsData x_, rA tsA10 w_] = some (.one (.g .bool true)) from by rw [law05_KernBetween_is, ht]; rfl) w fun γ hγ => Eq.mp (by kernel_rfl) (hrd γ hγ)
end
end Go.V.P
