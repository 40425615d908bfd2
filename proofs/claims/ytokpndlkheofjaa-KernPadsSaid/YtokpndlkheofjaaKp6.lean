/- What functions compute. -/
import Derived.Test.YtokpndlkheofjaaKp5
namespace Go.V.P
open Go.RowKit Go.V Go.Proofs
set_option linter.unusedVariables false
set_option maxRecDepth 100000
section
variable {α β : Type} (n_ : Node) (l_ : (List I4)) (s1461 : Int) (s1477 : Int) (y1509 : I3) (y1512 : (Int × Int)) (s1526 : Int) (k : St → Option α) (q : Kont α)
noncomputable abbrev C83 := Q0r E.P 17
noncomputable abbrev P83 := @preK α E 17 cp79 ce4
noncomputable abbrev R83 := @Q0o α E 17 cp79 ce4
abbrev S83_0 : St := ⟨[(1, rl Q2n l_), (2, rC a01 n_), (4, rF 0)], [[di 0, di 0, di 0, di 0]], [], 101⟩
theorem c9x : P83 1 C83 ⟨[(0, rA a01 n_), (1, rl Q2n l_)], [], [], 101⟩ k = k (S83_0 n_ l_) := by kernel_rfl
theorem b7t : P83 1 C83.r.l (S83_0 n_ l_) k = k ⟨[(1, rl Q2n l_), (2, rC a01 n_), (4, rF 0), (16, rb (!(a4k n_ (l_.length : Int))))], [[di 0, di 0, di 0, di 0]], [], 101⟩ := by kernel_rfl
abbrev S83_1 : St := ⟨[(4, rF 0), (5, ri 11)], [[di 0, di 0, di 0, di 0]], [], 101⟩
theorem d00 : P83 1 C83.r.l.r.t (S83_0 n_ l_) k = k S83_1 := by kernel_rfl
abbrev S83_2 : St := ⟨[(1, rl Q2n l_), (2, rC a01 n_), (4, rF 0), (6, ri 0)], [[di 0, di 0, di 0, di 0]], [], 101⟩
theorem c9y : P83 1 C83.r.r.l (S83_0 n_ l_) k = k (S83_2 n_ l_) := by kernel_rfl
abbrev S83_3 : St := ⟨[(1, rl Q2n l_), (2, rC a01 n_), (4, rF 0), (6, ri s1461)], [[di 0, di 0, di 0, di 0]], [], 101⟩
theorem c41 : P83 1 C83.r.r.l.r.b.b.l (S83_3 n_ l_ s1461) k = k ⟨[(1, rl Q2n l_), (2, rC a01 n_), (4, rF 0), (6, ri s1461), (21, rb (decide (s1461 < (l_.length : Int))))], [[di 0, di 0, di 0, di 0]], [], 101⟩ := by kernel_rfl
def b15 : Option Bool := (bif (a8o n_.1) then (bif (decide ((0 : Int) ≤ s1461)) then (bif (decide (s1461 < (l_.length : Int))) then (some (((gt l_ s1461 dI4).2.2.2) != n_.2.2.2.2.2.2.2.2.1)) else none) else none) else (some false))
theorem d05 : P83 1 C83.r.r.l.r.b.b.r.l.b (S83_3 n_ l_ s1461) k = Option.bind (b15 n_ l_ s1461) (fun y1463 : Bool => k ⟨[(1, rl Q2n l_), (2, rC a01 n_), (4, rF 0), (6, ri s1461), (36, rb y1463)], [[di 0, di 0, di 0, di 0]], [], 101⟩) := .trans (by kernel_rfl) (Q2b (Q2b (Q2b Q0b Q0n) Q0n) Q0b)
theorem c42 : P83 1 C83.r.r.l.r.b.b.r.l.b.r.t (S83_3 n_ l_ s1461) k = k S83_1 := by kernel_rfl
theorem d04 : R83 C83.r.r.l.r.b.b.r.r (S83_3 n_ l_ s1461) q = q .normal ⟨[(1, rl Q2n l_), (2, rC a01 n_), (4, rF 0), (6, ri (IntKind.wrap .i64 (s1461 + 1)))], [[di 0, di 0, di 0, di 0]], [], 101⟩ := by kernel_rfl
def a5x : Option (Int ⊕ (Int ⊕ Unit)) := (bif (decide (s1461 < (l_.length : Int))) then (Option.bind (b15 n_ l_ s1461) (fun y1463 : Bool => (bif y1463 then (some (Sum.inr (Sum.inr ()))) else (some (Sum.inl (IntKind.wrap .i64 (s1461 + 1))))))) else (some (Sum.inr (Sum.inl s1461))))
abbrev S83_4 (y1464 : Int) : St := ⟨[(1, rl Q2n l_), (2, rC a01 n_), (4, rF 0), (6, ri y1464)], [[di 0, di 0, di 0, di 0]], [], 101⟩
theorem c4a : R83 C83.r.r.l.r.b.b (S83_3 n_ l_ s1461) (Q0w 1 q) = Option.bind (a5x n_ l_ s1461) (Q1z (fun y : Int => q .normal ⟨[(1, rl Q2n l_), (2, rC a01 n_), (4, rF 0), (6, ri y)], [[di 0, di 0, di 0, di 0]], [], 101⟩) (Q1z (fun y1464 : Int => q (.exit 0) (S83_4 n_ l_ y1464)) (fun y1465 : Unit => q .ret S83_1))) := by
  refine .trans ?_ (Q2b (Q0d fun y1463 => (Q2b e3_2 e3_0)) e3_1)
  refine .trans Q0c ?_
  refine (Q2d (c41 n_ l_ s1461 _)).trans ?_
  refine (Q0m (b := (decide (s1461 < (l_.length : Int)))) (st' := (S83_3 n_ l_ s1461)) ).trans (Q2f ?_ ?_)
  · refine (Q0i).trans ?_
    refine (Q0a (st' := (S83_3 n_ l_ s1461))).trans ?_
    refine .trans Q0c ?_
    refine (Q0j (id := 1)).trans ?_
    refine (Q2d (d05 n_ l_ s1461 _)).trans (Q0e fun y1463 => ?_)
    refine (Q0m (b := y1463) (st' := (S83_3 n_ l_ s1461)) ).trans (Q2f ?_ ?_)
    · refine (Q2d (c42 n_ l_ s1461 _)).trans ?_
      refine (Q0h).trans ?_
      refine Q0t.trans ?_
      refine Q0k.trans ?_
      kernel_rfl
    · refine (Q0i).trans ?_
      refine Q0f.trans ?_
      refine (Q0a (st' := (S83_3 n_ l_ s1461))).trans ?_
      refine (d04 n_ l_ s1461 _).trans ?_
      kernel_rfl
  · refine ((Q1f (j := 0))).trans ?_
    refine Q0v.trans ?_
    kernel_rfl
theorem d02 : R83 C83.r.r.l.r.b (S83_2 n_ l_) q = Option.bind (iterN (a5x n_ l_) LL (0 : Int)) (Q1z (fun y1464 : Int => q (.exit 0) (S83_4 n_ l_ y1464)) (fun y1465 : Unit => q .ret S83_1)) :=
  Eq.trans (by kernel_rfl) (loop_iter2 (S := fun s1461 : Int => (S83_3 n_ l_ s1461)) (Y1 := fun y1464 : Int => ((.exit 0), (S83_4 n_ l_ y1464))) (Y2 := fun y1465 : Unit => (.ret, S83_1)) (fun s q => c4a n_ l_ s q) (fun z => rfl) (fun z => rfl) LL (0 : Int))
abbrev S83_5 : St := ⟨[(1, rl Q2n l_), (2, rC a01 n_), (4, rF 0), (7, ri 0)], [[di 0, di 0, di 0, di 0]], [], 101⟩
theorem c9z : P83 1 C83.r.r.r.l (S83_0 n_ l_) k = k (S83_5 n_ l_) := by kernel_rfl
abbrev S83_6 : St := ⟨[(1, rl Q2n l_), (2, rC a01 n_), (4, rF 0), (7, ri s1477)], [[di 0, di 0, di 0, di 0]], [], 101⟩
theorem c43 : P83 1 C83.r.r.r.l.r.b.b.l (S83_6 n_ l_ s1477) k = k ⟨[(1, rl Q2n l_), (2, rC a01 n_), (4, rF 0), (7, ri s1477), (41, rb (decide (s1477 < (l_.length : Int))))], [[di 0, di 0, di 0, di 0]], [], 101⟩ := by kernel_rfl
def a9l : Option Bool := (bif (decide ((0 : Int) ≤ s1477)) then (bif (decide (s1477 < (l_.length : Int))) then (some ((a1r ((gt l_ s1477 dI4).1, (gt l_ s1477 dI4).2.1, (gt l_ s1477 dI4).2.2.1)) != 0)) else none) else none)
theorem c6f : P83 1 C83.r.r.r.l.r.b.b.r.l.b (S83_6 n_ l_ s1477) k = Option.bind (a9l l_ s1477) (fun y1479 : Bool => k ⟨[(1, rl Q2n l_), (2, rC a01 n_), (4, rF 0), (7, ri s1477), (50, rb y1479)], [[di 0, di 0, di 0, di 0]], [], 101⟩) := .trans (by kernel_rfl) (Q2b (Q2b Q0b Q0n) Q0n)
abbrev S83_7 : St := ⟨[(4, rF 0), (5, ri 10)], [[di 0, di 0, di 0, di 0]], [], 101⟩
theorem c44 : P83 1 C83.r.r.r.l.r.b.b.r.l.b.r.t (S83_6 n_ l_ s1477) k = k S83_7 := by kernel_rfl
theorem c6e : R83 C83.r.r.r.l.r.b.b.r.r (S83_6 n_ l_ s1477) q = q .normal ⟨[(1, rl Q2n l_), (2, rC a01 n_), (4, rF 0), (7, ri (IntKind.wrap .i64 (s1477 + 1)))], [[di 0, di 0, di 0, di 0]], [], 101⟩ := by kernel_rfl
def a5y : Option (Int ⊕ (Int ⊕ Unit)) := (bif (decide (s1477 < (l_.length : Int))) then (Option.bind (a9l l_ s1477) (fun y1479 : Bool => (bif y1479 then (some (Sum.inr (Sum.inr ()))) else (some (Sum.inl (IntKind.wrap .i64 (s1477 + 1))))))) else (some (Sum.inr (Sum.inl s1477))))
abbrev S83_8 (y1480 : Int) : St := ⟨[(1, rl Q2n l_), (2, rC a01 n_), (4, rF 0), (7, ri y1480)], [[di 0, di 0, di 0, di 0]], [], 101⟩
theorem c4b : R83 C83.r.r.r.l.r.b.b (S83_6 n_ l_ s1477) (Q0w 1 q) = Option.bind (a5y l_ s1477) (Q1z (fun y : Int => q .normal ⟨[(1, rl Q2n l_), (2, rC a01 n_), (4, rF 0), (7, ri y)], [[di 0, di 0, di 0, di 0]], [], 101⟩) (Q1z (fun y1480 : Int => q (.exit 2) (S83_8 n_ l_ y1480)) (fun y1481 : Unit => q .ret S83_7))) := by
  refine .trans ?_ (Q2b (Q0d fun y1479 => (Q2b e3_2 e3_0)) e3_1)
  refine .trans Q0c ?_
  refine (Q2d (c43 n_ l_ s1477 _)).trans ?_
  refine (Q0m (b := (decide (s1477 < (l_.length : Int)))) (st' := (S83_6 n_ l_ s1477)) ).trans (Q2f ?_ ?_)
  · refine (Q0i).trans ?_
    refine (Q0a (st' := (S83_6 n_ l_ s1477))).trans ?_
    refine .trans Q0c ?_
    refine (Q0j (id := 3)).trans ?_
    refine (Q2d (c6f n_ l_ s1477 _)).trans (Q0e fun y1479 => ?_)
    refine (Q0m (b := y1479) (st' := (S83_6 n_ l_ s1477)) ).trans (Q2f ?_ ?_)
    · refine (Q2d (c44 n_ l_ s1477 _)).trans ?_
      refine (Q0h).trans ?_
      refine Q0t.trans ?_
      refine Q0k.trans ?_
      kernel_rfl
    · refine (Q0i).trans ?_
      refine Q0f.trans ?_
      refine (Q0a (st' := (S83_6 n_ l_ s1477))).trans ?_
      refine (c6e n_ l_ s1477 _).trans ?_
      kernel_rfl
  · refine ((Q1f (j := 2))).trans ?_
    refine Q0v.trans ?_
    kernel_rfl
theorem d03 : R83 C83.r.r.r.l.r.b (S83_5 n_ l_) q = Option.bind (iterN (a5y l_) LL (0 : Int)) (Q1z (fun y1480 : Int => q (.exit 2) (S83_8 n_ l_ y1480)) (fun y1481 : Unit => q .ret S83_7)) :=
  Eq.trans (by kernel_rfl) (loop_iter2 (S := fun s1477 : Int => (S83_6 n_ l_ s1477)) (Y1 := fun y1480 : Int => ((.exit 2), (S83_8 n_ l_ y1480))) (Y2 := fun y1481 : Unit => (.ret, S83_7)) (fun s q => c4b n_ l_ s q) (fun z => rfl) (fun z => rfl) LL (0 : Int))
abbrev S83_9 : St := ⟨[(1, rl Q2n l_), (2, rC a01 n_), (4, rF 0), (8, rF 1)], [[di 0, di 0, di 0, di 0], (Q2o.leaves y1509)], [], 101⟩
theorem c6g : P83 1 C83.r.r.r.r (S83_0 n_ l_) k = Option.bind (b05 n_ l_) fun y1509 : I3 => k (S83_9 n_ l_ y1509) := by kernel_rfl
theorem b7u : P83 1 C83.r.r.r.r.r.l (S83_9 n_ l_ y1509) k = k ⟨[(1, rl Q2n l_), (2, rC a01 n_), (4, rF 0), (8, rF 1), (57, rb ((a1r y1509) != 0))], [[di 0, di 0, di 0, di 0], (Q2o.leaves y1509)], [], 101⟩ := by kernel_rfl
theorem c45 : P83 1 C83.r.r.r.r.r.l.r.t (S83_9 n_ l_ y1509) k = k ⟨[(4, rF 0), (5, ri 10)], [[di 0, di 0, di 0, di 0], []], [], 101⟩ := by kernel_rfl
def a9m : Option (Int × Int) := (bif (decide ((0 : Int) < (l_.length : Int))) then (some (b06 n_ ((gt l_ (0 : Int) dI4).1, (gt l_ (0 : Int) dI4).2.1, (gt l_ (0 : Int) dI4).2.2.1))) else none)
abbrev e0j : St := ⟨[(2, rC a01 n_), (4, rF 0), (8, rF 1), (9, ri y1512.1), (10, ri y1512.2)], [[di 0, di 0, di 0, di 0], (Q2o.leaves y1509)], [], 101⟩
theorem c6h : P83 1 C83.r.r.r.r.r.r (S83_9 n_ l_ y1509) k = Option.bind (a9m n_ l_) (fun y1512 : (Int × Int) => k (e0j n_ y1509 y1512)) := .trans (by kernel_rfl) (Q2b Q0b Q0n)
def a9n (K : Bool → β) : β := (bif ((n_.2.2.2.2.2.2.2.2.2.2.2.2.1.length : Int) != y1512.1) then (K true) else (K ((n_.2.2.2.2.2.2.2.2.2.2.2.2.2.length : Int) != y1512.2)))
def a2m : Bool := a9n n_ y1512 (fun y => y)
theorem c2g (K : Bool → β) : a9n n_ y1512 K = K (a2m n_ y1512) := (Q2h K rfl rfl)
theorem c6i : P83 1 C83.r.r.r.r.r.r.r.l (e0j n_ y1509 y1512) k = k ⟨[(2, rC a01 n_), (4, rF 0), (8, rF 1), (79, rb (a2m n_ y1512))], [[di 0, di 0, di 0, di 0], (Q2o.leaves y1509)], [], 101⟩ := Eq.trans (by kernel_rfl) (c2g n_ y1512 (fun y1514 : Bool => k ⟨[(2, rC a01 n_), (4, rF 0), (8, rF 1), (79, rb y1514)], [[di 0, di 0, di 0, di 0], (Q2o.leaves y1509)], [], 101⟩))
abbrev b40 : St := ⟨[(2, rC a01 n_), (4, rF 0), (8, rF 1)], [[di 0, di 0, di 0, di 0], (Q2o.leaves y1509)], [], 101⟩
abbrev b9f : St := ⟨[(4, rF 0), (5, ri 12)], [[di 0, di 0, di 0, di 0], []], [], 101⟩
theorem c46 : P83 1 C83.r.r.r.r.r.r.r.l.r.t (b40 n_ y1509) k = k b9f := by kernel_rfl
abbrev e0k : St := ⟨[(2, rC a01 n_), (4, rF 0), (8, rF 1), (11, ri 0)], [[di 0, di 0, di 0, di 0], (Q2o.leaves y1509)], [], 101⟩
theorem c6c : P83 1 C83.r.r.r.r.r.r.r.r.l (b40 n_ y1509) k = k (e0k n_ y1509) := by kernel_rfl
abbrev a50 : St := ⟨[(2, rC a01 n_), (4, rF 0), (8, rF 1), (11, ri s1526)], [[di 0, di 0, di 0, di 0], (Q2o.leaves y1509)], [], 101⟩
theorem c47 : P83 1 C83.r.r.r.r.r.r.r.r.l.r.b.b.l (a50 n_ y1509 s1526) k = k ⟨[(2, rC a01 n_), (4, rF 0), (8, rF 1), (11, ri s1526), (85, rb (decide (s1526 < (n_.2.2.2.2.2.2.2.2.2.2.2.2.2.length : Int))))], [[di 0, di 0, di 0, di 0], (Q2o.leaves y1509)], [], 101⟩ := by kernel_rfl
def a9o : Option Bool := (bif (decide ((0 : Int) ≤ s1526)) then (bif (decide (s1526 < (n_.2.2.2.2.2.2.2.2.2.2.2.2.2.length : Int))) then (some (!(a1i (IntKind.wrap .i64 (gt n_.2.2.2.2.2.2.2.2.2.2.2.2.2 s1526 (0 : Int))) (-16777216 : Int) (16777216 : Int)))) else none) else none)
theorem c6k : P83 1 C83.r.r.r.r.r.r.r.r.l.r.b.b.r.l.b (a50 n_ y1509 s1526) k = Option.bind (a9o n_ s1526) (fun y1528 : Bool => k ⟨[(2, rC a01 n_), (4, rF 0), (8, rF 1), (11, ri s1526), (95, rb y1528)], [[di 0, di 0, di 0, di 0], (Q2o.leaves y1509)], [], 101⟩) := .trans (by kernel_rfl) (Q2b (Q2b Q0b Q0n) Q0n)
theorem c48 : P83 1 C83.r.r.r.r.r.r.r.r.l.r.b.b.r.l.b.r.t (a50 n_ y1509 s1526) k = k b9f := by kernel_rfl
theorem c6j : R83 C83.r.r.r.r.r.r.r.r.l.r.b.b.r.r (a50 n_ y1509 s1526) q = q .normal ⟨[(2, rC a01 n_), (4, rF 0), (8, rF 1), (11, ri (IntKind.wrap .i64 (s1526 + 1)))], [[di 0, di 0, di 0, di 0], (Q2o.leaves y1509)], [], 101⟩ := by kernel_rfl
def a4x : Option (Int ⊕ (Int ⊕ Unit)) := (bif (decide (s1526 < (n_.2.2.2.2.2.2.2.2.2.2.2.2.2.length : Int))) then (Option.bind (a9o n_ s1526) (fun y1528 : Bool => (bif y1528 then (some (Sum.inr (Sum.inr ()))) else (some (Sum.inl (IntKind.wrap .i64 (s1526 + 1))))))) else (some (Sum.inr (Sum.inl s1526))))
abbrev d4z (y1529 : Int) : St := ⟨[(2, rC a01 n_), (4, rF 0), (8, rF 1), (11, ri y1529)], [[di 0, di 0, di 0, di 0], (Q2o.leaves y1509)], [], 101⟩
theorem c2f : R83 C83.r.r.r.r.r.r.r.r.l.r.b.b (a50 n_ y1509 s1526) (Q0w 2 q) = Option.bind (a4x n_ s1526) (Q1z (fun y : Int => q .normal ⟨[(2, rC a01 n_), (4, rF 0), (8, rF 1), (11, ri y)], [[di 0, di 0, di 0, di 0], (Q2o.leaves y1509)], [], 101⟩) (Q1z (fun y1529 : Int => q (.exit 4) (d4z n_ y1509 y1529)) (fun y1530 : Unit => q .ret b9f))) := by
  refine .trans ?_ (Q2b (Q0d fun y1528 => (Q2b e3_2 e3_0)) e3_1)
  refine .trans Q0c ?_
  refine (Q2d (c47 n_ y1509 s1526 _)).trans ?_
  refine (Q0m (b := (decide (s1526 < (n_.2.2.2.2.2.2.2.2.2.2.2.2.2.length : Int)))) (st' := (a50 n_ y1509 s1526)) ).trans (Q2f ?_ ?_)
  · refine (Q0i).trans ?_
    refine (Q0a (st' := (a50 n_ y1509 s1526))).trans ?_
    refine .trans Q0c ?_
    refine (Q0j (id := 5)).trans ?_
    refine (Q2d (c6k n_ y1509 s1526 _)).trans (Q0e fun y1528 => ?_)
    refine (Q0m (b := y1528) (st' := (a50 n_ y1509 s1526)) ).trans (Q2f ?_ ?_)
    · refine (Q2d (c48 n_ y1509 s1526 _)).trans ?_
      refine (Q0h).trans ?_
      refine Q0t.trans ?_
      refine Q0k.trans ?_
      kernel_rfl
    · refine (Q0i).trans ?_
      refine Q0f.trans ?_
      refine (Q0a (st' := (a50 n_ y1509 s1526))).trans ?_
      refine (c6j n_ y1509 s1526 _).trans ?_
      kernel_rfl
  · refine ((Q1f (j := 4))).trans ?_
    refine Q0v.trans ?_
    kernel_rfl
theorem c6d : R83 C83.r.r.r.r.r.r.r.r.l.r.b (e0k n_ y1509) q = Option.bind (iterN (a4x n_) LL (0 : Int)) (Q1z (fun y1529 : Int => q (.exit 4) (d4z n_ y1509 y1529)) (fun y1530 : Unit => q .ret b9f)) :=
  Eq.trans (by kernel_rfl) (loop_iter2 (S := fun s1526 : Int => (a50 n_ y1509 s1526)) (Y1 := fun y1529 : Int => ((.exit 4), (d4z n_ y1509 y1529))) (Y2 := fun y1530 : Unit => (.ret, b9f)) (fun s q => c2f n_ y1509 s q) (fun z => rfl) (fun z => rfl) LL (0 : Int))
theorem c49 : P83 1 C83.r.r.r.r.r.r.r.r.r (b40 n_ y1509) k = k ⟨[(4, rF 0), (5, ri 0)], [[di y1509.1, di y1509.2.1, di y1509.2.2, di n_.2.2.2.2.2.2.2.2.1], []], [], 101⟩ := by kernel_rfl
def a0x : Option (I4 × Int) := (bif (!(a4k n_ (l_.length : Int))) then (some (((0 : Int), (0 : Int), (0 : Int), (0 : Int)), (11 : Int))) else (Option.bind (iterN (a5x n_ l_) LL (0 : Int)) (Q1z (fun y1464 : Int => (Option.bind (iterN (a5y l_) LL (0 : Int)) (Q1z (fun y1480 : Int => (Option.bind (b05 n_ l_) (fun y1509 : I3 => (bif ((a1r y1509) != 0) then (some (((0 : Int), (0 : Int), (0 : Int), (0 : Int)), (10 : Int))) else (Option.bind (a9m n_ l_) (fun y1512 : (Int × Int) => (bif (a2m n_ y1512) then (some (((0 : Int), (0 : Int), (0 : Int), (0 : Int)), (12 : Int))) else (Option.bind (iterN (a4x n_) LL (0 : Int)) (Q1z (fun y1529 : Int => (some ((y1509.1, y1509.2.1, y1509.2.2, n_.2.2.2.2.2.2.2.2.1), (0 : Int)))) (fun y1530 : Unit => (some (((0 : Int), (0 : Int), (0 : Int), (0 : Int)), (12 : Int))))))))))))) (fun y1481 : Unit => (some (((0 : Int), (0 : Int), (0 : Int), (0 : Int)), (10 : Int))))))) (fun y1465 : Unit => (some (((0 : Int), (0 : Int), (0 : Int), (0 : Int)), (11 : Int)))))))
theorem d01 : Q2j E cp79 ce4 17 [rA a01 n_, rl Q2n l_] = Option.bind (a0x n_ l_) (fun y : (I4 × Int) => some (.tup [rA Q2n y.1, ri y.2] : R)) := by
  refine .trans ?_ (Q2b Q0b (Q0d (Q0g (fun y1464 => (Q0d (Q0g (fun y1480 => (Q0d fun y1509 => (Q2b Q0b (Q0d fun y1512 => (Q2b Q0b (Q0d (Q0g (fun y1529 => Q0b) (fun y1530 => Q0b)))))))) (fun y1481 => Q0b)))) (fun y1465 => Q0b))))
  refine (Q0l (nt := 101) (regs := [(0, rA a01 n_), (1, rl Q2n l_)])).trans ?_
  refine (Q2d (c9x n_ l_ _)).trans ?_
  refine .trans Q0c ?_
  refine (Q2d (b7t n_ l_ _)).trans ?_
  refine (Q0m (b := (!(a4k n_ (l_.length : Int)))) (st' := (S83_0 n_ l_)) ).trans (Q2f ?_ ?_)
  · refine (Q2d (d00 n_ l_ _)).trans ?_
    refine (Q0h).trans ?_
    refine Q0k.trans ?_
    kernel_rfl
  · refine (Q0i).trans ?_
    refine (Q0a (st' := (S83_0 n_ l_))).trans ?_
    refine .trans Q0c ?_
    refine (Q2d (c9y n_ l_ _)).trans ?_
    refine (Q0j (id := 0)).trans ?_
    refine (d02 n_ l_ _).trans (Q0e (Q1d (fun y1464 => ?_) (fun y1465 => ?_)))
    · refine Q0u.trans ?_
      refine (Q0a (st' := (S83_0 n_ l_))).trans ?_
      refine .trans Q0c ?_
      refine (Q2d (c9z n_ l_ _)).trans ?_
      refine (Q0j (id := 2)).trans ?_
      refine (d03 n_ l_ _).trans (Q0e (Q1d (fun y1480 => ?_) (fun y1481 => ?_)))
      · refine Q0u.trans ?_
        refine (Q0a (st' := (S83_0 n_ l_))).trans ?_
        refine (Q2d (c6g n_ l_ _)).trans (Q0e fun y1509 => ?_)
        refine .trans Q0c ?_
        refine (Q2d (b7u n_ l_ y1509 _)).trans ?_
        refine (Q0m (b := ((a1r y1509) != 0)) (st' := (S83_9 n_ l_ y1509)) ).trans (Q2f ?_ ?_)
        · refine (Q2d (c45 n_ l_ y1509 _)).trans ?_
          refine (Q0h).trans ?_
          refine Q0k.trans ?_
          kernel_rfl
        · refine (Q0i).trans ?_
          refine (Q0a (st' := (S83_9 n_ l_ y1509))).trans ?_
          refine (Q2d (c6h n_ l_ y1509 _)).trans (Q0e fun y1512 => ?_)
          refine .trans Q0c ?_
          refine (Q2d (c6i n_ y1509 y1512 _)).trans ?_
          refine (Q0m (b := (a2m n_ y1512)) (st' := (b40 n_ y1509)) ).trans (Q2f ?_ ?_)
          · refine (Q2d (c46 n_ y1509 _)).trans ?_
            refine (Q0h).trans ?_
            refine Q0k.trans ?_
            kernel_rfl
          · refine (Q0i).trans ?_
            refine (Q0a (st' := (b40 n_ y1509))).trans ?_
            refine .trans Q0c ?_
            refine (Q2d (c6c n_ y1509 _)).trans ?_
            refine (Q0j (id := 4)).trans ?_
            refine (c6d n_ y1509 _).trans (Q0e (Q1d (fun y1529 => ?_) (fun y1530 => ?_)))
            · refine Q0u.trans ?_
              refine (Q0a (st' := (b40 n_ y1509))).trans ?_
              refine (Q2d (c49 n_ y1509 _)).trans ?_
              refine (Q0h).trans ?_
              kernel_rfl
            · refine Q0t.trans ?_
              refine Q0k.trans ?_
              kernel_rfl
      · refine Q0t.trans ?_
        refine Q0k.trans ?_
        kernel_rfl
    · refine Q0t.trans ?_
      refine Q0k.trans ?_
      kernel_rfl
noncomputable def cp80 : Q2g := Q2i cp79 17 [(.agg a01), (pL Q2n)] (.tup [(.agg Q2n), pI]) (fun y : (I4 × Int) => (y.1, y.2, ())) (fun x => a0x x.1 x.2.1)
theorem c7g : Q0p E cp80 := conS eok e4c a0r fun x => Eq.mp (by kernel_rfl) (d01 x.1 x.2.1)
end
end Go.V.P
