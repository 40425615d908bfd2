/- What functions compute. -/
import Derived.Test.YtokpndlkheofjaaKf6
namespace Go.V.P
open Go.RowKit Go.V Go.Proofs
set_option linter.unusedVariables false
set_option maxRecDepth 100000
section
variable {α β : Type} (x_ : Data) (w_ : (List Int)) (y1454 : Bool) (y1455 : ((List I4) × A3 × Bool)) (y1460 : ((List Int) × Int)) (s1479 : ((List Int) × Int)) (y1484 : Int) (y1486 : ((List Int) × Int)) (y1488 : ((List Int) × Int)) (s1508 : Int) (y1511 : Int) (k : St → Option α) (q : Kont α)
noncomputable abbrev C77 := codeOf E.P 9
noncomputable abbrev P77 := @preK α E 9 cp72 ce4
noncomputable abbrev R77 := @runCode α E 9 cp72 ce4
noncomputable abbrev Q77 := @seqC α E 9 cp72 ce4
abbrev S77_0 : St := ⟨[(1, rl (.one (.int .i8)) w_), (2, rC tsData x_), (5, rb y1454)], [], [], 168⟩
theorem law05_KernBeside_r1 : P77 2 C77 ⟨[(0, rA tsData x_), (1, rl (.one (.int .i8)) w_)], [], [], 168⟩ k = Option.bind law05_shown fun y1454 : Bool => k (S77_0 x_ w_ y1454) := by kernel_rfl
abbrev S77_1 : St := ⟨[(1, rl (.one (.int .i8)) w_), (5, rb y1454), (6, rO tsI4 y1455.1 6), (7, rF 0), (8, rb y1455.2.2)], [(tsA3.leaves y1455.2.1)], [], 168⟩
theorem law05_KernBeside_r2 : P77 1 C77.r.r (S77_0 x_ w_ y1454) k = Option.bind (law05_pair x_) fun y1455 : ((List I4) × A3 × Bool) => k (S77_1 w_ y1454 y1455) := by kernel_rfl
def law05_KernBeside_r3_p : Option Bool := (bif (!y1455.2.2) then (some true) else (bif (decide ((0 : Int) < (y1455.1.length : Int))) then (some (decide (((gt y1455.1 (0 : Int) dI4).2.2.1) > 4))) else none))
theorem law05_KernBeside_r3 : P77 1 C77.r.r.r.l (S77_1 w_ y1454 y1455) k = Option.bind (law05_KernBeside_r3_p y1455) (fun y1457 : Bool => k ⟨[(1, rl (.one (.int .i8)) w_), (5, rb y1454), (6, rO tsI4 y1455.1 6), (7, rF 0), (35, rb y1457)], [(tsA3.leaves y1455.2.1)], [], 168⟩) := .trans (by kernel_rfl) (bif_b some_b (bif_b some_b none_b))
abbrev S77_2 : St := ⟨[(1, rl (.one (.int .i8)) w_), (5, rb y1454), (6, rO tsI4 y1455.1 6), (7, rF 0)], [(tsA3.leaves y1455.2.1)], [], 168⟩
theorem law05_KernBeside_fz : P77 1 C77.r.r.r.l.r.t (S77_2 w_ y1454 y1455) k = k ⟨[(4, rb y1454)], [[]], [], 168⟩ := by kernel_rfl
def law05_KernBeside_r5_p : Option Unit := (bif (decide ((0 : Int) < (y1455.1.length : Int))) then (some ()) else none)
abbrev S77_3 : St := ⟨[(1, rl (.one (.int .i8)) w_), (5, rb y1454), (6, rO tsI4 y1455.1 6), (7, rF 0), (9, ri ((gt y1455.1 (0 : Int) dI4).2.2.1))], [(tsA3.leaves y1455.2.1)], [], 168⟩
theorem law05_KernBeside_r5 : P77 1 C77.r.r.r.r (S77_2 w_ y1454 y1455) k = Option.bind (law05_KernBeside_r5_p y1455) (fun y1458 : Unit => k (S77_3 w_ y1454 y1455)) := .trans (by kernel_rfl) (bif_b some_b none_b)
def law05_KernBeside_r6_p : Option ((List Int) × Int) := (bif (decide ((0 : Int) < (y1455.1.length : Int))) then (Option.bind (kern_All ((10 : Int), [], (0 : Int), (0 : Int), (0 : Int), (0 : Int), (1 : Int), (0 : Int), (gt y1455.1 (0 : Int) dI4).2.2.2, (0 : Int), (0 : Int), (0 : Int), [], []) y1455.1 y1455.2.1) (fun y1459 : ((List Int) × Int) => (some y1459))) else none)
abbrev S77_4 : St := ⟨[(1, rl (.one (.int .i8)) w_), (5, rb y1454), (6, rO tsI4 y1455.1 6), (7, rF 0), (9, ri ((gt y1455.1 (0 : Int) dI4).2.2.1)), (10, .one (.ow (.one (.int .i8)) y1460.1 (.v 10))), (11, ri y1460.2)], [(tsA3.leaves y1455.2.1)], [], 168⟩
theorem law05_KernBeside_r6 : P77 1 C77.r.r.r.r.r (S77_3 w_ y1454 y1455) k = Option.bind (law05_KernBeside_r6_p y1455) (fun y1460 : ((List Int) × Int) => k (S77_4 w_ y1454 y1455 y1460)) := .trans (by kernel_rfl) (bif_b (bind_b fun y1459 => some_b) none_b)
abbrev S77_5 : St := ⟨[(1, rl (.one (.int .i8)) w_), (5, rb y1454), (6, rO tsI4 y1455.1 6), (7, rF 0), (9, ri ((gt y1455.1 (0 : Int) dI4).2.2.1)), (10, .one (.ow (.one (.int .i8)) y1460.1 (.v 10))), (11, ri y1460.2), (12, .one (.ow (.one (.int .i8)) [] (.v 12)))], [(tsA3.leaves y1455.2.1)], [], 168⟩
theorem law05_KernBeside_f8 : P77 1 C77.r.r.r.r.r.r (S77_4 w_ y1454 y1455 y1460) k = k (S77_5 w_ y1454 y1455 y1460) := by kernel_rfl
abbrev S77_6 : St := ⟨[(1, rl (.one (.int .i8)) w_), (5, rb y1454), (6, rO tsI4 y1455.1 6), (7, rF 0), (9, ri ((gt y1455.1 (0 : Int) dI4).2.2.1)), (10, .one (.ow (.one (.int .i8)) y1460.1 (.v 10))), (11, ri y1460.2), (12, .one (.ow (.one (.int .i8)) [] (.v 12))), (13, ri 0)], [(tsA3.leaves y1455.2.1)], [], 168⟩
theorem law05_KernBeside_f9 : P77 1 C77.r.r.r.r.r.r.r.l (S77_5 w_ y1454 y1455 y1460) k = k (S77_6 w_ y1454 y1455 y1460) := by kernel_rfl
abbrev S77_7 : St := ⟨[(1, rl (.one (.int .i8)) w_), (5, rb y1454), (6, rO tsI4 y1455.1 6), (7, rF 0), (9, ri ((gt y1455.1 (0 : Int) dI4).2.2.1)), (10, .one (.ow (.one (.int .i8)) y1460.1 (.v 10))), (11, ri y1460.2), (12, .one (.ow (.one (.int .i8)) s1479.1 (.v 12))), (13, ri s1479.2)], [(tsA3.leaves y1455.2.1)], [], 168⟩
theorem law05_KernBeside_fzx1 : P77 1 C77.r.r.r.r.r.r.r.l.r.b.b.l (S77_7 w_ y1454 y1455 y1460 s1479) k = k ⟨[(1, rl (.one (.int .i8)) w_), (5, rb y1454), (6, rO tsI4 y1455.1 6), (7, rF 0), (9, ri ((gt y1455.1 (0 : Int) dI4).2.2.1)), (10, .one (.ow (.one (.int .i8)) y1460.1 (.v 10))), (11, ri y1460.2), (12, .one (.ow (.one (.int .i8)) s1479.1 (.v 12))), (13, ri s1479.2), (55, rb (decide (s1479.2 < 256)))], [(tsA3.leaves y1455.2.1)], [], 168⟩ := by kernel_rfl
abbrev S77_8 : St := ⟨[(1, rl (.one (.int .i8)) w_), (5, rb y1454), (6, rO tsI4 y1455.1 6), (7, rF 0), (9, ri ((gt y1455.1 (0 : Int) dI4).2.2.1)), (10, .one (.ow (.one (.int .i8)) y1460.1 (.v 10))), (11, ri y1460.2), (12, .one (.ow (.one (.int .i8)) s1479.1 (.v 12))), (13, ri s1479.2), (14, rk .i8 (IntKind.wrap .i8 (IntKind.wrap .i64 (s1479.2 - 128))))], [(tsA3.leaves y1455.2.1)], [], 168⟩
theorem law05_KernBeside_f12 : P77 1 C77.r.r.r.r.r.r.r.l.r.b.b.r.l.b (S77_7 w_ y1454 y1455 y1460 s1479) k = k (S77_8 w_ y1454 y1455 y1460 s1479) := by kernel_rfl
theorem law05_KernBeside_f1000013 : P77 1 C77.r.r.r.r.r.r.r.l.r.b.b.r.l.b.r.l (S77_8 w_ y1454 y1455 y1460 s1479) k = k ⟨[(1, rl (.one (.int .i8)) w_), (5, rb y1454), (6, rO tsI4 y1455.1 6), (7, rF 0), (9, ri ((gt y1455.1 (0 : Int) dI4).2.2.1)), (10, .one (.ow (.one (.int .i8)) y1460.1 (.v 10))), (11, ri y1460.2), (12, .one (.ow (.one (.int .i8)) s1479.1 (.v 12))), (13, ri s1479.2), (14, rk .i8 (IntKind.wrap .i8 (IntKind.wrap .i64 (s1479.2 - 128)))), (63, rb (decide ((w_.length : Int) > 0)))], [(tsA3.leaves y1455.2.1)], [], 168⟩ := by kernel_rfl
def law05_KernBeside_r13_p : Option Unit := (bif ((w_.length : Int) == 0) then none else (bif (decide ((0 : Int) ≤ (Int.tmod s1479.2 (w_.length : Int)))) then (bif (decide ((Int.tmod s1479.2 (w_.length : Int)) < (w_.length : Int))) then (some ()) else none) else none))
abbrev S77_9 : St := ⟨[(1, rl (.one (.int .i8)) w_), (5, rb y1454), (6, rO tsI4 y1455.1 6), (7, rF 0), (9, ri ((gt y1455.1 (0 : Int) dI4).2.2.1)), (10, .one (.ow (.one (.int .i8)) y1460.1 (.v 10))), (11, ri y1460.2), (12, .one (.ow (.one (.int .i8)) s1479.1 (.v 12))), (13, ri s1479.2), (14, rk .i8 (gt w_ (Int.tmod s1479.2 (w_.length : Int)) (0 : Int)))], [(tsA3.leaves y1455.2.1)], [], 168⟩
theorem law05_KernBeside_r13 : R77 C77.r.r.r.r.r.r.r.l.r.b.b.r.l.b.r.l.r.t (S77_8 w_ y1454 y1455 y1460 s1479) q = Option.bind (law05_KernBeside_r13_p w_ s1479) (fun y1483 : Unit => q .normal (S77_9 w_ y1454 y1455 y1460 s1479)) := .trans (by kernel_rfl) (bif_b none_b (bif_b (bif_b some_b none_b) none_b))
def law05_KernBeside_j12_p : Option Int := (bif (decide ((w_.length : Int) > 0)) then (Option.bind (law05_KernBeside_r13_p w_ s1479) (fun y1483 : Unit => (some (gt w_ (Int.tmod s1479.2 (w_.length : Int)) (0 : Int))))) else (some (IntKind.wrap .i8 (IntKind.wrap .i64 (s1479.2 - 128)))))
abbrev S77_10 : St := ⟨[(1, rl (.one (.int .i8)) w_), (5, rb y1454), (6, rO tsI4 y1455.1 6), (7, rF 0), (9, ri ((gt y1455.1 (0 : Int) dI4).2.2.1)), (10, .one (.ow (.one (.int .i8)) y1460.1 (.v 10))), (11, ri y1460.2), (12, .one (.ow (.one (.int .i8)) s1479.1 (.v 12))), (13, ri s1479.2), (14, rk .i8 y1484)], [(tsA3.leaves y1455.2.1)], [], 168⟩
theorem law05_KernBeside_j12 : R77 C77.r.r.r.r.r.r.r.l.r.b.b.r.l.b.r.l (S77_8 w_ y1454 y1455 y1460 s1479) (Q77 C77.r.r.r.r.r.r.r.l.r.b.b.r.l.b.r.r q) = Option.bind (law05_KernBeside_j12_p w_ s1479) (fun y1484 : Int => R77 C77.r.r.r.r.r.r.r.l.r.b.b.r.l.b.r.r (S77_10 w_ y1454 y1455 y1460 s1479 y1484) q) := by
  refine .trans ?_ (bif_b (bind_b fun y1483 => some_b) some_b)
  refine (pre1 (law05_KernBeside_f1000013 w_ y1454 y1455 y1460 s1479 _)).trans ?_
  refine (cond_e (b := (decide ((w_.length : Int) > 0))) (st' := (S77_8 w_ y1454 y1455 y1460 s1479)) ).trans (bif_g ?_ ?_)
  · refine (law05_KernBeside_r13 w_ y1454 y1455 y1460 s1479 _).trans (bind_g fun y1483 => ?_)
    refine (seqC_normal (st' := (S77_9 w_ y1454 y1455 y1460 s1479))).trans ?_
    kernel_rfl
  · refine (skip_eq).trans ?_
    refine (seqC_normal (st' := (S77_8 w_ y1454 y1455 y1460 s1479))).trans ?_
    kernel_rfl
def law05_KernBeside_r14_p : Option Unit := (bif (decide (s1479.1.length + ([y1484] : List Int).length ≤ maxL)) then (some ()) else none)
abbrev S77_11 : St := ⟨[(1, rl (.one (.int .i8)) w_), (5, rb y1454), (6, rO tsI4 y1455.1 6), (7, rF 0), (9, ri ((gt y1455.1 (0 : Int) dI4).2.2.1)), (10, .one (.ow (.one (.int .i8)) y1460.1 (.v 10))), (11, ri y1460.2), (12, .one (.ow (.one (.int .i8)) (s1479.1 ++ [y1484]) (.v 12))), (13, ri s1479.2)], [(tsA3.leaves y1455.2.1)], [], 168⟩
theorem law05_KernBeside_r14 : R77 C77.r.r.r.r.r.r.r.l.r.b.b.r.l.b.r.r (S77_10 w_ y1454 y1455 y1460 s1479 y1484) q = Option.bind (law05_KernBeside_r14_p s1479 y1484) (fun y1485 : Unit => q .normal (S77_11 w_ y1454 y1455 y1460 s1479 y1484)) := .trans (by kernel_rfl) (bif_b some_b none_b)
theorem law05_KernBeside_r10 : R77 C77.r.r.r.r.r.r.r.l.r.b.b.r.r (S77_11 w_ y1454 y1455 y1460 s1479 y1484) q = q .normal ⟨[(1, rl (.one (.int .i8)) w_), (5, rb y1454), (6, rO tsI4 y1455.1 6), (7, rF 0), (9, ri ((gt y1455.1 (0 : Int) dI4).2.2.1)), (10, .one (.ow (.one (.int .i8)) y1460.1 (.v 10))), (11, ri y1460.2), (12, .one (.ow (.one (.int .i8)) (s1479.1 ++ [y1484]) (.v 12))), (13, ri (IntKind.wrap .i64 (s1479.2 + 1)))], [(tsA3.leaves y1455.2.1)], [], 168⟩ := by kernel_rfl
def law05_KernBeside_l9_p : Option (((List Int) × Int) ⊕ ((List Int) × Int)) := (bif (decide (s1479.2 < 256)) then (Option.bind (law05_KernBeside_j12_p w_ s1479) (fun y1484 : Int => (Option.bind (law05_KernBeside_r14_p s1479 y1484) (fun y1485 : Unit => (some (Sum.inl ((s1479.1 ++ [y1484]), (IntKind.wrap .i64 (s1479.2 + 1))))))))) else (some (Sum.inr s1479)))
abbrev S77_12 : St := ⟨[(1, rl (.one (.int .i8)) w_), (5, rb y1454), (6, rO tsI4 y1455.1 6), (7, rF 0), (9, ri ((gt y1455.1 (0 : Int) dI4).2.2.1)), (10, .one (.ow (.one (.int .i8)) y1460.1 (.v 10))), (11, ri y1460.2), (12, .one (.ow (.one (.int .i8)) y1486.1 (.v 12))), (13, ri y1486.2)], [(tsA3.leaves y1455.2.1)], [], 168⟩
theorem law05_KernBeside_l9_b : R77 C77.r.r.r.r.r.r.r.l.r.b.b (S77_7 w_ y1454 y1455 y1460 s1479) (loopKont 1 q) = Option.bind (law05_KernBeside_l9_p w_ s1479) (either (fun y : ((List Int) × Int) => q .normal ⟨[(1, rl (.one (.int .i8)) w_), (5, rb y1454), (6, rO tsI4 y1455.1 6), (7, rF 0), (9, ri ((gt y1455.1 (0 : Int) dI4).2.2.1)), (10, .one (.ow (.one (.int .i8)) y1460.1 (.v 10))), (11, ri y1460.2), (12, .one (.ow (.one (.int .i8)) y.1 (.v 12))), (13, ri y.2)], [(tsA3.leaves y1455.2.1)], [], 168⟩) (fun y1486 : ((List Int) × Int) => q (.exit 0) (S77_12 w_ y1454 y1455 y1460 y1486))) := by
  refine .trans ?_ (bif_b (bind_b fun y1484 => (bind_b fun y1485 => e2_0)) e2_1)
  refine .trans seq_push ?_
  refine (pre1 (law05_KernBeside_fzx1 w_ y1454 y1455 y1460 s1479 _)).trans ?_
  refine (cond_e (b := (decide (s1479.2 < 256))) (st' := (S77_7 w_ y1454 y1455 y1460 s1479)) ).trans (bif_g ?_ ?_)
  · refine (skip_eq).trans ?_
    refine (seqC_normal (st' := (S77_7 w_ y1454 y1455 y1460 s1479))).trans ?_
    refine .trans seq_push ?_
    refine (block_push (id := 1)).trans ?_
    refine (pre1 (law05_KernBeside_f12 w_ y1454 y1455 y1460 s1479 _)).trans ?_
    refine .trans seq_push ?_
    refine (law05_KernBeside_j12 w_ y1454 y1455 y1460 s1479 _).trans (bind_g fun y1484 => ?_)
    refine (law05_KernBeside_r14 w_ y1454 y1455 y1460 s1479 y1484 _).trans (bind_g fun y1485 => ?_)
    refine block_normal.trans ?_
    refine (seqC_normal (st' := (S77_11 w_ y1454 y1455 y1460 s1479 y1484))).trans ?_
    refine (law05_KernBeside_r10 w_ y1454 y1455 y1460 s1479 y1484 _).trans ?_
    kernel_rfl
  · refine ((exit_eq (j := 0))).trans ?_
    refine seqC_exit.trans ?_
    kernel_rfl
theorem law05_KernBeside_l9 : R77 C77.r.r.r.r.r.r.r.l.r.b (S77_6 w_ y1454 y1455 y1460) q = Option.bind (iterN (law05_KernBeside_l9_p w_) LL ([], (0 : Int))) (fun y1486 : ((List Int) × Int) => q (.exit 0) (S77_12 w_ y1454 y1455 y1460 y1486)) :=
  Eq.trans (by kernel_rfl) (loop_iter1 (S := fun s1479 : ((List Int) × Int) => (S77_7 w_ y1454 y1455 y1460 s1479)) (Y1 := fun y1486 : ((List Int) × Int) => ((.exit 0), (S77_12 w_ y1454 y1455 y1460 y1486))) (fun s q => law05_KernBeside_l9_b w_ y1454 y1455 y1460 s q) (fun z => rfl) LL ([], (0 : Int)))
def law05_KernBeside_r15_p : Option ((List Int) × Int) := (bif (decide ((1 : Int) ≤ (y1455.1.length : Int))) then (Option.bind (kern_All ((12 : Int), [], (0 : Int), (0 : Int), (0 : Int), (0 : Int), (1 : Int), (0 : Int), (0 : Int), (0 : Int), (0 : Int), (0 : Int), y1486.1, []) ((y1455.1.take (Int.toNat (1 : Int))).drop (Int.toNat (0 : Int))) (y1455.2.1.1, [])) (fun y1487 : ((List Int) × Int) => (some y1487))) else none)
abbrev S77_13 : St := ⟨[(5, rb y1454), (6, rO tsI4 y1455.1 6), (7, rF 0), (9, ri ((gt y1455.1 (0 : Int) dI4).2.2.1)), (10, .one (.ow (.one (.int .i8)) y1460.1 (.v 10))), (11, ri y1460.2), (12, .one (.ow (.one (.int .i8)) y1486.1 (.v 12)))], [(tsA3.leaves y1455.2.1)], [], 168⟩
abbrev S77_14 : St := ⟨[(5, rb y1454), (7, rF 0), (9, ri ((gt y1455.1 (0 : Int) dI4).2.2.1)), (10, .one (.ow (.one (.int .i8)) y1460.1 (.v 10))), (11, ri y1460.2), (12, .one (.ow (.one (.int .i8)) y1486.1 (.v 12))), (15, .one (.ow (.one (.int .i8)) y1488.1 (.v 15))), (16, ri y1488.2)], [(tsA3.leaves y1455.2.1)], [], 168⟩
theorem law05_KernBeside_r15 : P77 1 C77.r.r.r.r.r.r.r.r (S77_13 y1454 y1455 y1460 y1486) k = Option.bind (law05_KernBeside_r15_p y1455 y1486) (fun y1488 : ((List Int) × Int) => k (S77_14 y1454 y1455 y1460 y1486 y1488)) := .trans (by kernel_rfl) (bif_b (bind_b fun y1487 => some_b) none_b)
def law05_KernBeside_r16_q (K : Bool → β) : β := (bif (y1460.2 != 0) then (K true) else (bif (y1488.2 != 0) then (K true) else (bif ((y1460.1.length : Int) != (IntKind.wrap .i64 ((2 : Int) * (y1455.2.1.1.length : Int)))) then (K true) else (K ((y1488.1.length : Int) != (y1455.2.1.1.length : Int))))))
def law05_KernBeside_r16_p : Bool := law05_KernBeside_r16_q y1455 y1460 y1488 (fun y => y)
theorem law05_KernBeside_r16_n (K : Bool → β) : law05_KernBeside_r16_q y1455 y1460 y1488 K = K (law05_KernBeside_r16_p y1455 y1460 y1488) := (bif_k K rfl (bif_k K rfl (bif_k K rfl rfl)))
theorem law05_KernBeside_r16 : P77 1 C77.r.r.r.r.r.r.r.r.r.l (S77_14 y1454 y1455 y1460 y1486 y1488) k = k ⟨[(5, rb y1454), (7, rF 0), (9, ri ((gt y1455.1 (0 : Int) dI4).2.2.1)), (10, .one (.ow (.one (.int .i8)) y1460.1 (.v 10))), (12, .one (.ow (.one (.int .i8)) y1486.1 (.v 12))), (15, .one (.ow (.one (.int .i8)) y1488.1 (.v 15))), (108, rb (law05_KernBeside_r16_p y1455 y1460 y1488))], [(tsA3.leaves y1455.2.1)], [], 168⟩ := Eq.trans (by kernel_rfl) (law05_KernBeside_r16_n y1455 y1460 y1488 (fun y1490 : Bool => k ⟨[(5, rb y1454), (7, rF 0), (9, ri ((gt y1455.1 (0 : Int) dI4).2.2.1)), (10, .one (.ow (.one (.int .i8)) y1460.1 (.v 10))), (12, .one (.ow (.one (.int .i8)) y1486.1 (.v 12))), (15, .one (.ow (.one (.int .i8)) y1488.1 (.v 15))), (108, rb y1490)], [(tsA3.leaves y1455.2.1)], [], 168⟩))
abbrev S77_15 : St := ⟨[(5, rb y1454), (7, rF 0), (9, ri ((gt y1455.1 (0 : Int) dI4).2.2.1)), (10, .one (.ow (.one (.int .i8)) y1460.1 (.v 10))), (12, .one (.ow (.one (.int .i8)) y1486.1 (.v 12))), (15, .one (.ow (.one (.int .i8)) y1488.1 (.v 15)))], [(tsA3.leaves y1455.2.1)], [], 168⟩
abbrev S77_16 : St := ⟨[(4, rb false)], [[]], [], 168⟩
theorem law05_KernBeside_fzx2 : P77 1 C77.r.r.r.r.r.r.r.r.r.l.r.t (S77_15 y1454 y1455 y1460 y1486 y1488) k = k S77_16 := by kernel_rfl
abbrev S77_17 : St := ⟨[(5, rb y1454), (7, rF 0), (9, ri ((gt y1455.1 (0 : Int) dI4).2.2.1)), (10, .one (.ow (.one (.int .i8)) y1460.1 (.v 10))), (12, .one (.ow (.one (.int .i8)) y1486.1 (.v 12))), (15, .one (.ow (.one (.int .i8)) y1488.1 (.v 15))), (17, ri 0)], [(tsA3.leaves y1455.2.1)], [], 168⟩
theorem law05_KernBeside_f19 : P77 1 C77.r.r.r.r.r.r.r.r.r.r.l (S77_15 y1454 y1455 y1460 y1486 y1488) k = k (S77_17 y1454 y1455 y1460 y1486 y1488) := by kernel_rfl
abbrev S77_18 : St := ⟨[(5, rb y1454), (7, rF 0), (9, ri ((gt y1455.1 (0 : Int) dI4).2.2.1)), (10, .one (.ow (.one (.int .i8)) y1460.1 (.v 10))), (12, .one (.ow (.one (.int .i8)) y1486.1 (.v 12))), (15, .one (.ow (.one (.int .i8)) y1488.1 (.v 15))), (17, ri s1508)], [(tsA3.leaves y1455.2.1)], [], 168⟩
theorem law05_KernBeside_fzx3 : P77 1 C77.r.r.r.r.r.r.r.r.r.r.l.r.b.b.l (S77_18 y1454 y1455 y1460 y1486 y1488 s1508) k = k ⟨[(5, rb y1454), (7, rF 0), (9, ri ((gt y1455.1 (0 : Int) dI4).2.2.1)), (10, .one (.ow (.one (.int .i8)) y1460.1 (.v 10))), (12, .one (.ow (.one (.int .i8)) y1486.1 (.v 12))), (15, .one (.ow (.one (.int .i8)) y1488.1 (.v 15))), (17, ri s1508), (113, rb (decide (s1508 < (y1455.2.1.1.length : Int))))], [(tsA3.leaves y1455.2.1)], [], 168⟩ := by kernel_rfl
def law05_KernBeside_r21_p : Option Int := (bif (((gt y1455.1 (0 : Int) dI4).2.2.1) == 0) then none else (bif (((gt y1455.1 (0 : Int) dI4).2.2.1) == 0) then none else (some (IntKind.wrap .i64 ((IntKind.wrap .i64 ((IntKind.wrap .i64 ((IntKind.wrap .i64 (Int.tdiv s1508 ((gt y1455.1 (0 : Int) dI4).2.2.1))) * (2 : Int))) * ((gt y1455.1 (0 : Int) dI4).2.2.1))) + (Int.tmod s1508 ((gt y1455.1 (0 : Int) dI4).2.2.1)))))))
abbrev S77_19 : St := ⟨[(5, rb y1454), (7, rF 0), (9, ri ((gt y1455.1 (0 : Int) dI4).2.2.1)), (10, .one (.ow (.one (.int .i8)) y1460.1 (.v 10))), (12, .one (.ow (.one (.int .i8)) y1486.1 (.v 12))), (15, .one (.ow (.one (.int .i8)) y1488.1 (.v 15))), (17, ri s1508), (18, ri y1511)], [(tsA3.leaves y1455.2.1)], [], 168⟩
theorem law05_KernBeside_r21 : P77 1 C77.r.r.r.r.r.r.r.r.r.r.l.r.b.b.r.l.b (S77_18 y1454 y1455 y1460 y1486 y1488 s1508) k = Option.bind (law05_KernBeside_r21_p y1455 s1508) (fun y1511 : Int => k (S77_19 y1454 y1455 y1460 y1486 y1488 s1508 y1511)) := .trans (by kernel_rfl) (bif_b none_b (bif_b none_b some_b))
def law05_KernBeside_r22_p : Option Bool := (bif (decide ((0 : Int) ≤ y1511)) then (bif (decide (y1511 < (y1460.1.length : Int))) then (bif (decide ((0 : Int) ≤ s1508)) then (bif (decide (s1508 < (y1455.2.1.1.length : Int))) then (bif ((gt y1460.1 y1511 (0 : Int)) != (gt y1455.2.1.1 s1508 (0 : Int))) then (some true) else (bif (decide ((0 : Int) ≤ (IntKind.wrap .i64 (y1511 + ((gt y1455.1 (0 : Int) dI4).2.2.1))))) then (bif (decide ((IntKind.wrap .i64 (y1511 + ((gt y1455.1 (0 : Int) dI4).2.2.1))) < (y1460.1.length : Int))) then (bif (decide ((0 : Int) ≤ s1508)) then (bif (decide (s1508 < (y1455.2.1.2.length : Int))) then (bif ((gt y1460.1 (IntKind.wrap .i64 (y1511 + ((gt y1455.1 (0 : Int) dI4).2.2.1))) (0 : Int)) != (gt y1455.2.1.2 s1508 (0 : Int))) then (some true) else (bif (decide ((0 : Int) ≤ s1508)) then (bif (decide (s1508 < (y1488.1.length : Int))) then (bif (decide ((0 : Int) ≤ s1508)) then (bif (decide (s1508 < (y1455.2.1.1.length : Int))) then (bif (decide ((0 : Int) ≤ (IntKind.wrap .i64 ((IntKind.wrap .i64 (gt y1455.2.1.1 s1508 (0 : Int))) + 128)))) then (bif (decide ((IntKind.wrap .i64 ((IntKind.wrap .i64 (gt y1455.2.1.1 s1508 (0 : Int))) + 128)) < (y1486.1.length : Int))) then (some ((gt y1488.1 s1508 (0 : Int)) != (gt y1486.1 (IntKind.wrap .i64 ((IntKind.wrap .i64 (gt y1455.2.1.1 s1508 (0 : Int))) + 128)) (0 : Int)))) else none) else none) else none) else none) else none) else none)) else none) else none) else none) else none)) else none) else none) else none) else none)
theorem law05_KernBeside_r22 : P77 1 C77.r.r.r.r.r.r.r.r.r.r.l.r.b.b.r.l.b.r (S77_19 y1454 y1455 y1460 y1486 y1488 s1508 y1511) k = Option.bind (law05_KernBeside_r22_p y1455 y1460 y1486 y1488 s1508 y1511) (fun y1512 : Bool => k ⟨[(5, rb y1454), (7, rF 0), (9, ri ((gt y1455.1 (0 : Int) dI4).2.2.1)), (10, .one (.ow (.one (.int .i8)) y1460.1 (.v 10))), (12, .one (.ow (.one (.int .i8)) y1486.1 (.v 12))), (15, .one (.ow (.one (.int .i8)) y1488.1 (.v 15))), (17, ri s1508), (166, rb y1512)], [(tsA3.leaves y1455.2.1)], [], 168⟩) := .trans (by kernel_rfl) (bif_b (bif_b (bif_b (bif_b (bif_b some_b (bif_b (bif_b (bif_b (bif_b (bif_b some_b (bif_b (bif_b (bif_b (bif_b (bif_b (bif_b some_b none_b) none_b) none_b) none_b) none_b) none_b)) none_b) none_b) none_b) none_b)) none_b) none_b) none_b) none_b)
theorem law05_KernBeside_fzx4 : P77 1 C77.r.r.r.r.r.r.r.r.r.r.l.r.b.b.r.l.b.r.r.t (S77_18 y1454 y1455 y1460 y1486 y1488 s1508) k = k S77_16 := by kernel_rfl
theorem law05_KernBeside_r20 : R77 C77.r.r.r.r.r.r.r.r.r.r.l.r.b.b.r.r (S77_18 y1454 y1455 y1460 y1486 y1488 s1508) q = q .normal ⟨[(5, rb y1454), (7, rF 0), (9, ri ((gt y1455.1 (0 : Int) dI4).2.2.1)), (10, .one (.ow (.one (.int .i8)) y1460.1 (.v 10))), (12, .one (.ow (.one (.int .i8)) y1486.1 (.v 12))), (15, .one (.ow (.one (.int .i8)) y1488.1 (.v 15))), (17, ri (IntKind.wrap .i64 (s1508 + 1)))], [(tsA3.leaves y1455.2.1)], [], 168⟩ := by kernel_rfl
def law05_KernBeside_l19_p : Option (Int ⊕ (Int ⊕ Unit)) := (bif (decide (s1508 < (y1455.2.1.1.length : Int))) then (Option.bind (law05_KernBeside_r21_p y1455 s1508) (fun y1511 : Int => (Option.bind (law05_KernBeside_r22_p y1455 y1460 y1486 y1488 s1508 y1511) (fun y1512 : Bool => (bif y1512 then (some (Sum.inr (Sum.inr ()))) else (some (Sum.inl (IntKind.wrap .i64 (s1508 + 1))))))))) else (some (Sum.inr (Sum.inl s1508))))
abbrev S77_20 (y1513 : Int) : St := ⟨[(5, rb y1454), (7, rF 0), (9, ri ((gt y1455.1 (0 : Int) dI4).2.2.1)), (10, .one (.ow (.one (.int .i8)) y1460.1 (.v 10))), (12, .one (.ow (.one (.int .i8)) y1486.1 (.v 12))), (15, .one (.ow (.one (.int .i8)) y1488.1 (.v 15))), (17, ri y1513)], [(tsA3.leaves y1455.2.1)], [], 168⟩
theorem law05_KernBeside_l19_b : R77 C77.r.r.r.r.r.r.r.r.r.r.l.r.b.b (S77_18 y1454 y1455 y1460 y1486 y1488 s1508) (loopKont 1 q) = Option.bind (law05_KernBeside_l19_p y1455 y1460 y1486 y1488 s1508) (either (fun y : Int => q .normal ⟨[(5, rb y1454), (7, rF 0), (9, ri ((gt y1455.1 (0 : Int) dI4).2.2.1)), (10, .one (.ow (.one (.int .i8)) y1460.1 (.v 10))), (12, .one (.ow (.one (.int .i8)) y1486.1 (.v 12))), (15, .one (.ow (.one (.int .i8)) y1488.1 (.v 15))), (17, ri y)], [(tsA3.leaves y1455.2.1)], [], 168⟩) (either (fun y1513 : Int => q (.exit 2) (S77_20 y1454 y1455 y1460 y1486 y1488 y1513)) (fun y1514 : Unit => q .ret S77_16))) := by
  refine .trans ?_ (bif_b (bind_b fun y1511 => (bind_b fun y1512 => (bif_b e3_2 e3_0))) e3_1)
  refine .trans seq_push ?_
  refine (pre1 (law05_KernBeside_fzx3 y1454 y1455 y1460 y1486 y1488 s1508 _)).trans ?_
  refine (cond_e (b := (decide (s1508 < (y1455.2.1.1.length : Int)))) (st' := (S77_18 y1454 y1455 y1460 y1486 y1488 s1508)) ).trans (bif_g ?_ ?_)
  · refine (skip_eq).trans ?_
    refine (seqC_normal (st' := (S77_18 y1454 y1455 y1460 y1486 y1488 s1508))).trans ?_
    refine .trans seq_push ?_
    refine (block_push (id := 3)).trans ?_
    refine (pre1 (law05_KernBeside_r21 y1454 y1455 y1460 y1486 y1488 s1508 _)).trans (bind_g fun y1511 => ?_)
    refine (pre1 (law05_KernBeside_r22 y1454 y1455 y1460 y1486 y1488 s1508 y1511 _)).trans (bind_g fun y1512 => ?_)
    refine (cond_e (b := y1512) (st' := (S77_18 y1454 y1455 y1460 y1486 y1488 s1508)) ).trans (bif_g ?_ ?_)
    · refine (pre1 (law05_KernBeside_fzx4 y1454 y1455 y1460 y1486 y1488 s1508 _)).trans ?_
      refine (ret_eq).trans ?_
      refine block_ret.trans ?_
      refine seqC_ret.trans ?_
      kernel_rfl
    · refine (skip_eq).trans ?_
      refine block_normal.trans ?_
      refine (seqC_normal (st' := (S77_18 y1454 y1455 y1460 y1486 y1488 s1508))).trans ?_
      refine (law05_KernBeside_r20 y1454 y1455 y1460 y1486 y1488 s1508 _).trans ?_
      kernel_rfl
  · refine ((exit_eq (j := 2))).trans ?_
    refine seqC_exit.trans ?_
    kernel_rfl
theorem law05_KernBeside_l19 : R77 C77.r.r.r.r.r.r.r.r.r.r.l.r.b (S77_17 y1454 y1455 y1460 y1486 y1488) q = Option.bind (iterN (law05_KernBeside_l19_p y1455 y1460 y1486 y1488) LL (0 : Int)) (either (fun y1513 : Int => q (.exit 2) (S77_20 y1454 y1455 y1460 y1486 y1488 y1513)) (fun y1514 : Unit => q .ret S77_16)) :=
  Eq.trans (by kernel_rfl) (loop_iter2 (S := fun s1508 : Int => (S77_18 y1454 y1455 y1460 y1486 y1488 s1508)) (Y1 := fun y1513 : Int => ((.exit 2), (S77_20 y1454 y1455 y1460 y1486 y1488 y1513))) (Y2 := fun y1514 : Unit => (.ret, S77_16)) (fun s q => law05_KernBeside_l19_b y1454 y1455 y1460 y1486 y1488 s q) (fun z => rfl) (fun z => rfl) LL (0 : Int))
theorem law05_KernBeside_fzx5 : P77 1 C77.r.r.r.r.r.r.r.r.r.r.r ⟨[(5, rb y1454)], [(tsA3.leaves y1455.2.1)], [], 168⟩ k = k ⟨[(4, rb y1454)], [(tsA3.leaves y1455.2.1)], [], 168⟩ := by kernel_rfl
/-- quilt/quiltlaw05.KernBeside -/
def law05_KernBeside : Option Bool := (Option.bind law05_shown (fun y1454 : Bool => (Option.bind (law05_pair x_) (fun y1455 : ((List I4) × A3 × Bool) => (Option.bind (law05_KernBeside_r3_p y1455) (fun y1457 : Bool => (bif y1457 then (some y1454) else (Option.bind (law05_KernBeside_r5_p y1455) (fun y1458 : Unit => (Option.bind (law05_KernBeside_r6_p y1455) (fun y1460 : ((List Int) × Int) => (Option.bind (iterN (law05_KernBeside_l9_p w_) LL ([], (0 : Int))) (fun y1486 : ((List Int) × Int) => (Option.bind (law05_KernBeside_r15_p y1455 y1486) (fun y1488 : ((List Int) × Int) => (bif (law05_KernBeside_r16_p y1455 y1460 y1488) then (some false) else (Option.bind (iterN (law05_KernBeside_l19_p y1455 y1460 y1486 y1488) LL (0 : Int)) (either (fun y1513 : Int => (some y1454)) (fun y1514 : Unit => (some false))))))))))))))))))))
theorem law05_KernBeside_is : stepS E cp72 ce4 9 [rA tsData x_, rl (.one (.int .i8)) w_] = Option.bind (law05_KernBeside x_ w_) (fun y : Bool => some (rb y : R)) := by
  refine .trans ?_ (bind_b fun y1454 => (bind_b fun y1455 => (bind_b fun y1457 => (bif_b some_b (bind_b fun y1458 => (bind_b fun y1460 => (bind_b fun y1486 => (bind_b fun y1488 => (bif_b some_b (bind_b (either_b (fun y1513 => some_b) (fun y1514 => some_b))))))))))))
  refine (stepG_is (nt := 168) (regs := [(0, rA tsData x_), (1, rl (.one (.int .i8)) w_)])).trans ?_
  refine (pre2 (law05_KernBeside_r1 x_ w_ _)).trans (bind_g fun y1454 => ?_)
  refine (pre1 (law05_KernBeside_r2 x_ w_ y1454 _)).trans (bind_g fun y1455 => ?_)
  refine .trans seq_push ?_
  refine (pre1 (law05_KernBeside_r3 w_ y1454 y1455 _)).trans (bind_g fun y1457 => ?_)
  refine (cond_e (b := y1457) (st' := (S77_2 w_ y1454 y1455)) ).trans (bif_g ?_ ?_)
  · refine (pre1 (law05_KernBeside_fz w_ y1454 y1455 _)).trans ?_
    refine (ret_eq).trans ?_
    refine seqC_ret.trans ?_
    kernel_rfl
  · refine (skip_eq).trans ?_
    refine (seqC_normal (st' := (S77_2 w_ y1454 y1455))).trans ?_
    refine (pre1 (law05_KernBeside_r5 w_ y1454 y1455 _)).trans (bind_g fun y1458 => ?_)
    refine (pre1 (law05_KernBeside_r6 w_ y1454 y1455 _)).trans (bind_g fun y1460 => ?_)
    refine (pre1 (law05_KernBeside_f8 w_ y1454 y1455 y1460 _)).trans ?_
    refine .trans seq_push ?_
    refine (pre1 (law05_KernBeside_f9 w_ y1454 y1455 y1460 _)).trans ?_
    refine (block_push (id := 0)).trans ?_
    refine (law05_KernBeside_l9 w_ y1454 y1455 y1460 _).trans (bind_g fun y1486 => ?_)
    refine block_same.trans ?_
    refine (seqC_normal (st' := (S77_13 y1454 y1455 y1460 y1486))).trans ?_
    refine (pre1 (law05_KernBeside_r15 y1454 y1455 y1460 y1486 _)).trans (bind_g fun y1488 => ?_)
    refine .trans seq_push ?_
    refine (pre1 (law05_KernBeside_r16 y1454 y1455 y1460 y1486 y1488 _)).trans ?_
    refine (cond_e (b := (law05_KernBeside_r16_p y1455 y1460 y1488)) (st' := (S77_15 y1454 y1455 y1460 y1486 y1488)) ).trans (bif_g ?_ ?_)
    · refine (pre1 (law05_KernBeside_fzx2 y1454 y1455 y1460 y1486 y1488 _)).trans ?_
      refine (ret_eq).trans ?_
      refine seqC_ret.trans ?_
      kernel_rfl
    · refine (skip_eq).trans ?_
      refine (seqC_normal (st' := (S77_15 y1454 y1455 y1460 y1486 y1488))).trans ?_
      refine .trans seq_push ?_
      refine (pre1 (law05_KernBeside_f19 y1454 y1455 y1460 y1486 y1488 _)).trans ?_
      refine (block_push (id := 2)).trans ?_
      refine (law05_KernBeside_l19 y1454 y1455 y1460 y1486 y1488 _).trans (bind_g (either_g (fun y1513 => ?_) (fun y1514 => ?_)))
      · refine block_same.trans ?_
        refine (seqC_normal (st' := ⟨[(5, rb y1454)], [(tsA3.leaves y1455.2.1)], [], 168⟩)).trans ?_
        refine (pre1 (law05_KernBeside_fzx5 y1454 y1455 _)).trans ?_
        refine (ret_eq).trans ?_
        kernel_rfl
      · refine block_ret.trans ?_
        refine seqC_ret.trans ?_
        kernel_rfl
noncomputable def cp74 : CallP := withC cp72 9 [(.agg tsData), (.one (.g (.sl (.one (.int .i8)))))] (.one pB) (fun y : Bool => y) (fun x => law05_KernBeside x.1 x.2.1)
theorem cp74_ok : PureOK E cp74 := conS eok cp72_ok ce4_ok fun x => Eq.mp (by kernel_rfl) (law05_KernBeside_is x.1 x.2.1)
theorem law05_KernBeside_walk (ht : law05_KernBeside x_ w_ = some true) (w : World) (vs : List Value) (hrd : ∀ γ : Gh, Free γ → rdRs w γ [argR true tsData x_, argR false (.one (.sl (.one (.int .i8)))) w_] vs) : Calls E.P 9 vs.toArray w fun e w' => e = .returned (.bool true) ∧ Below w.heap.size w w' :=
  walk_true (E := E) (stepS_ok eok cp72_ok ce4_ok) (show stepS E cp72 ce4 9 [rA tsData x_, rl (.one (.int .i8)) w_] = some (.one (.g .bool true)) from by rw [law05_KernBeside_is, ht]; rfl) w fun γ hγ => Eq.mp (by kernel_rfl) (hrd γ hγ)
end
end Go.V.P
