/- What functions compute. -/
import Derived.Test.YtokpndlkheofjaaKp5
namespace Go.V.P
open Go.RowKit Go.V Go.Proofs
set_option linter.unusedVariables false
set_option maxRecDepth 100000
section
variable {α β : Type} (n_ : Node) (l_ : (List I4)) (s1461 : Int) (s1477 : Int) (y1509 : I3) (y1512 : (Int × Int)) (s1526 : Int) (k : St → Option α) (q : Kont α)
noncomputable abbrev C83 := codeOf E.P 17
noncomputable abbrev P83 := @preK α E 17 cp79 ce4
noncomputable abbrev R83 := @runCode α E 17 cp79 ce4
abbrev S83_0 : St := ⟨[(1, rl tsI4 l_), (2, rC tsNode n_), (4, rF 0)], [[di 0, di 0, di 0, di 0]], [], 101⟩
theorem ref03_Value_f1 : P83 1 C83 ⟨[(0, rA tsNode n_), (1, rl tsI4 l_)], [], [], 101⟩ k = k (S83_0 n_ l_) := by kernel_rfl
theorem ref03_Value_f1000002 : P83 1 C83.r.l (S83_0 n_ l_) k = k ⟨[(1, rl tsI4 l_), (2, rC tsNode n_), (4, rF 0), (16, rb (!(ref03_node n_ (l_.length : Int))))], [[di 0, di 0, di 0, di 0]], [], 101⟩ := by kernel_rfl
abbrev S83_1 : St := ⟨[(4, rF 0), (5, ri 11)], [[di 0, di 0, di 0, di 0]], [], 101⟩
theorem ref03_Value_fz : P83 1 C83.r.l.r.t (S83_0 n_ l_) k = k S83_1 := by kernel_rfl
abbrev S83_2 : St := ⟨[(1, rl tsI4 l_), (2, rC tsNode n_), (4, rF 0), (6, ri 0)], [[di 0, di 0, di 0, di 0]], [], 101⟩
theorem ref03_Value_f4 : P83 1 C83.r.r.l (S83_0 n_ l_) k = k (S83_2 n_ l_) := by kernel_rfl
abbrev S83_3 : St := ⟨[(1, rl tsI4 l_), (2, rC tsNode n_), (4, rF 0), (6, ri s1461)], [[di 0, di 0, di 0, di 0]], [], 101⟩
theorem ref03_Value_fzx1 : P83 1 C83.r.r.l.r.b.b.l (S83_3 n_ l_ s1461) k = k ⟨[(1, rl tsI4 l_), (2, rC tsNode n_), (4, rF 0), (6, ri s1461), (21, rb (decide (s1461 < (l_.length : Int))))], [[di 0, di 0, di 0, di 0]], [], 101⟩ := by kernel_rfl
def ref03_Value_r6_p : Option Bool := (bif (ref03_keeps n_.1) then (bif (decide ((0 : Int) ≤ s1461)) then (bif (decide (s1461 < (l_.length : Int))) then (some (((gt l_ s1461 dI4).2.2.2) != n_.2.2.2.2.2.2.2.2.1)) else none) else none) else (some false))
theorem ref03_Value_r6 : P83 1 C83.r.r.l.r.b.b.r.l.b (S83_3 n_ l_ s1461) k = Option.bind (ref03_Value_r6_p n_ l_ s1461) (fun y1463 : Bool => k ⟨[(1, rl tsI4 l_), (2, rC tsNode n_), (4, rF 0), (6, ri s1461), (36, rb y1463)], [[di 0, di 0, di 0, di 0]], [], 101⟩) := .trans (by kernel_rfl) (bif_b (bif_b (bif_b some_b none_b) none_b) some_b)
theorem ref03_Value_fzx2 : P83 1 C83.r.r.l.r.b.b.r.l.b.r.t (S83_3 n_ l_ s1461) k = k S83_1 := by kernel_rfl
theorem ref03_Value_r5 : R83 C83.r.r.l.r.b.b.r.r (S83_3 n_ l_ s1461) q = q .normal ⟨[(1, rl tsI4 l_), (2, rC tsNode n_), (4, rF 0), (6, ri (IntKind.wrap .i64 (s1461 + 1)))], [[di 0, di 0, di 0, di 0]], [], 101⟩ := by kernel_rfl
def ref03_Value_l4_p : Option (Int ⊕ (Int ⊕ Unit)) := (bif (decide (s1461 < (l_.length : Int))) then (Option.bind (ref03_Value_r6_p n_ l_ s1461) (fun y1463 : Bool => (bif y1463 then (some (Sum.inr (Sum.inr ()))) else (some (Sum.inl (IntKind.wrap .i64 (s1461 + 1))))))) else (some (Sum.inr (Sum.inl s1461))))
abbrev S83_4 (y1464 : Int) : St := ⟨[(1, rl tsI4 l_), (2, rC tsNode n_), (4, rF 0), (6, ri y1464)], [[di 0, di 0, di 0, di 0]], [], 101⟩
theorem ref03_Value_l4_b : R83 C83.r.r.l.r.b.b (S83_3 n_ l_ s1461) (loopKont 1 q) = Option.bind (ref03_Value_l4_p n_ l_ s1461) (either (fun y : Int => q .normal ⟨[(1, rl tsI4 l_), (2, rC tsNode n_), (4, rF 0), (6, ri y)], [[di 0, di 0, di 0, di 0]], [], 101⟩) (either (fun y1464 : Int => q (.exit 0) (S83_4 n_ l_ y1464)) (fun y1465 : Unit => q .ret S83_1))) := by
  refine .trans ?_ (bif_b (bind_b fun y1463 => (bif_b e3_2 e3_0)) e3_1)
  refine .trans seq_push ?_
  refine (pre1 (ref03_Value_fzx1 n_ l_ s1461 _)).trans ?_
  refine (cond_e (b := (decide (s1461 < (l_.length : Int)))) (st' := (S83_3 n_ l_ s1461)) ).trans (bif_g ?_ ?_)
  · refine (skip_eq).trans ?_
    refine (seqC_normal (st' := (S83_3 n_ l_ s1461))).trans ?_
    refine .trans seq_push ?_
    refine (block_push (id := 1)).trans ?_
    refine (pre1 (ref03_Value_r6 n_ l_ s1461 _)).trans (bind_g fun y1463 => ?_)
    refine (cond_e (b := y1463) (st' := (S83_3 n_ l_ s1461)) ).trans (bif_g ?_ ?_)
    · refine (pre1 (ref03_Value_fzx2 n_ l_ s1461 _)).trans ?_
      refine (ret_eq).trans ?_
      refine block_ret.trans ?_
      refine seqC_ret.trans ?_
      kernel_rfl
    · refine (skip_eq).trans ?_
      refine block_normal.trans ?_
      refine (seqC_normal (st' := (S83_3 n_ l_ s1461))).trans ?_
      refine (ref03_Value_r5 n_ l_ s1461 _).trans ?_
      kernel_rfl
  · refine ((exit_eq (j := 0))).trans ?_
    refine seqC_exit.trans ?_
    kernel_rfl
theorem ref03_Value_l4 : R83 C83.r.r.l.r.b (S83_2 n_ l_) q = Option.bind (iterN (ref03_Value_l4_p n_ l_) LL (0 : Int)) (either (fun y1464 : Int => q (.exit 0) (S83_4 n_ l_ y1464)) (fun y1465 : Unit => q .ret S83_1)) :=
  Eq.trans (by kernel_rfl) (loop_iter2 (S := fun s1461 : Int => (S83_3 n_ l_ s1461)) (Y1 := fun y1464 : Int => ((.exit 0), (S83_4 n_ l_ y1464))) (Y2 := fun y1465 : Unit => (.ret, S83_1)) (fun s q => ref03_Value_l4_b n_ l_ s q) (fun z => rfl) (fun z => rfl) LL (0 : Int))
abbrev S83_5 : St := ⟨[(1, rl tsI4 l_), (2, rC tsNode n_), (4, rF 0), (7, ri 0)], [[di 0, di 0, di 0, di 0]], [], 101⟩
theorem ref03_Value_f9 : P83 1 C83.r.r.r.l (S83_0 n_ l_) k = k (S83_5 n_ l_) := by kernel_rfl
abbrev S83_6 : St := ⟨[(1, rl tsI4 l_), (2, rC tsNode n_), (4, rF 0), (7, ri s1477)], [[di 0, di 0, di 0, di 0]], [], 101⟩
theorem ref03_Value_fzx3 : P83 1 C83.r.r.r.l.r.b.b.l (S83_6 n_ l_ s1477) k = k ⟨[(1, rl tsI4 l_), (2, rC tsNode n_), (4, rF 0), (7, ri s1477), (41, rb (decide (s1477 < (l_.length : Int))))], [[di 0, di 0, di 0, di 0]], [], 101⟩ := by kernel_rfl
def ref03_Value_r11_p : Option Bool := (bif (decide ((0 : Int) ≤ s1477)) then (bif (decide (s1477 < (l_.length : Int))) then (some ((ref02_May ((gt l_ s1477 dI4).1, (gt l_ s1477 dI4).2.1, (gt l_ s1477 dI4).2.2.1)) != 0)) else none) else none)
theorem ref03_Value_r11 : P83 1 C83.r.r.r.l.r.b.b.r.l.b (S83_6 n_ l_ s1477) k = Option.bind (ref03_Value_r11_p l_ s1477) (fun y1479 : Bool => k ⟨[(1, rl tsI4 l_), (2, rC tsNode n_), (4, rF 0), (7, ri s1477), (50, rb y1479)], [[di 0, di 0, di 0, di 0]], [], 101⟩) := .trans (by kernel_rfl) (bif_b (bif_b some_b none_b) none_b)
abbrev S83_7 : St := ⟨[(4, rF 0), (5, ri 10)], [[di 0, di 0, di 0, di 0]], [], 101⟩
theorem ref03_Value_fzx4 : P83 1 C83.r.r.r.l.r.b.b.r.l.b.r.t (S83_6 n_ l_ s1477) k = k S83_7 := by kernel_rfl
theorem ref03_Value_r10 : R83 C83.r.r.r.l.r.b.b.r.r (S83_6 n_ l_ s1477) q = q .normal ⟨[(1, rl tsI4 l_), (2, rC tsNode n_), (4, rF 0), (7, ri (IntKind.wrap .i64 (s1477 + 1)))], [[di 0, di 0, di 0, di 0]], [], 101⟩ := by kernel_rfl
def ref03_Value_l9_p : Option (Int ⊕ (Int ⊕ Unit)) := (bif (decide (s1477 < (l_.length : Int))) then (Option.bind (ref03_Value_r11_p l_ s1477) (fun y1479 : Bool => (bif y1479 then (some (Sum.inr (Sum.inr ()))) else (some (Sum.inl (IntKind.wrap .i64 (s1477 + 1))))))) else (some (Sum.inr (Sum.inl s1477))))
abbrev S83_8 (y1480 : Int) : St := ⟨[(1, rl tsI4 l_), (2, rC tsNode n_), (4, rF 0), (7, ri y1480)], [[di 0, di 0, di 0, di 0]], [], 101⟩
theorem ref03_Value_l9_b : R83 C83.r.r.r.l.r.b.b (S83_6 n_ l_ s1477) (loopKont 1 q) = Option.bind (ref03_Value_l9_p l_ s1477) (either (fun y : Int => q .normal ⟨[(1, rl tsI4 l_), (2, rC tsNode n_), (4, rF 0), (7, ri y)], [[di 0, di 0, di 0, di 0]], [], 101⟩) (either (fun y1480 : Int => q (.exit 2) (S83_8 n_ l_ y1480)) (fun y1481 : Unit => q .ret S83_7))) := by
  refine .trans ?_ (bif_b (bind_b fun y1479 => (bif_b e3_2 e3_0)) e3_1)
  refine .trans seq_push ?_
  refine (pre1 (ref03_Value_fzx3 n_ l_ s1477 _)).trans ?_
  refine (cond_e (b := (decide (s1477 < (l_.length : Int)))) (st' := (S83_6 n_ l_ s1477)) ).trans (bif_g ?_ ?_)
  · refine (skip_eq).trans ?_
    refine (seqC_normal (st' := (S83_6 n_ l_ s1477))).trans ?_
    refine .trans seq_push ?_
    refine (block_push (id := 3)).trans ?_
    refine (pre1 (ref03_Value_r11 n_ l_ s1477 _)).trans (bind_g fun y1479 => ?_)
    refine (cond_e (b := y1479) (st' := (S83_6 n_ l_ s1477)) ).trans (bif_g ?_ ?_)
    · refine (pre1 (ref03_Value_fzx4 n_ l_ s1477 _)).trans ?_
      refine (ret_eq).trans ?_
      refine block_ret.trans ?_
      refine seqC_ret.trans ?_
      kernel_rfl
    · refine (skip_eq).trans ?_
      refine block_normal.trans ?_
      refine (seqC_normal (st' := (S83_6 n_ l_ s1477))).trans ?_
      refine (ref03_Value_r10 n_ l_ s1477 _).trans ?_
      kernel_rfl
  · refine ((exit_eq (j := 2))).trans ?_
    refine seqC_exit.trans ?_
    kernel_rfl
theorem ref03_Value_l9 : R83 C83.r.r.r.l.r.b (S83_5 n_ l_) q = Option.bind (iterN (ref03_Value_l9_p l_) LL (0 : Int)) (either (fun y1480 : Int => q (.exit 2) (S83_8 n_ l_ y1480)) (fun y1481 : Unit => q .ret S83_7)) :=
  Eq.trans (by kernel_rfl) (loop_iter2 (S := fun s1477 : Int => (S83_6 n_ l_ s1477)) (Y1 := fun y1480 : Int => ((.exit 2), (S83_8 n_ l_ y1480))) (Y2 := fun y1481 : Unit => (.ret, S83_7)) (fun s q => ref03_Value_l9_b n_ l_ s q) (fun z => rfl) (fun z => rfl) LL (0 : Int))
abbrev S83_9 : St := ⟨[(1, rl tsI4 l_), (2, rC tsNode n_), (4, rF 0), (8, rF 1)], [[di 0, di 0, di 0, di 0], (tsI3.leaves y1509)], [], 101⟩
theorem ref03_Value_r13 : P83 1 C83.r.r.r.r (S83_0 n_ l_) k = Option.bind (ref03_made n_ l_) fun y1509 : I3 => k (S83_9 n_ l_ y1509) := by kernel_rfl
theorem ref03_Value_f1000015 : P83 1 C83.r.r.r.r.r.l (S83_9 n_ l_ y1509) k = k ⟨[(1, rl tsI4 l_), (2, rC tsNode n_), (4, rF 0), (8, rF 1), (57, rb ((ref02_May y1509) != 0))], [[di 0, di 0, di 0, di 0], (tsI3.leaves y1509)], [], 101⟩ := by kernel_rfl
theorem ref03_Value_fzx5 : P83 1 C83.r.r.r.r.r.l.r.t (S83_9 n_ l_ y1509) k = k ⟨[(4, rF 0), (5, ri 10)], [[di 0, di 0, di 0, di 0], []], [], 101⟩ := by kernel_rfl
def ref03_Value_r16_p : Option (Int × Int) := (bif (decide ((0 : Int) < (l_.length : Int))) then (some (ref03_many n_ ((gt l_ (0 : Int) dI4).1, (gt l_ (0 : Int) dI4).2.1, (gt l_ (0 : Int) dI4).2.2.1))) else none)
abbrev S83_10 : St := ⟨[(2, rC tsNode n_), (4, rF 0), (8, rF 1), (9, ri y1512.1), (10, ri y1512.2)], [[di 0, di 0, di 0, di 0], (tsI3.leaves y1509)], [], 101⟩
theorem ref03_Value_r16 : P83 1 C83.r.r.r.r.r.r (S83_9 n_ l_ y1509) k = Option.bind (ref03_Value_r16_p n_ l_) (fun y1512 : (Int × Int) => k (S83_10 n_ y1509 y1512)) := .trans (by kernel_rfl) (bif_b some_b none_b)
def ref03_Value_r17_q (K : Bool → β) : β := (bif ((n_.2.2.2.2.2.2.2.2.2.2.2.2.1.length : Int) != y1512.1) then (K true) else (K ((n_.2.2.2.2.2.2.2.2.2.2.2.2.2.length : Int) != y1512.2)))
def ref03_Value_r17_p : Bool := ref03_Value_r17_q n_ y1512 (fun y => y)
theorem ref03_Value_r17_n (K : Bool → β) : ref03_Value_r17_q n_ y1512 K = K (ref03_Value_r17_p n_ y1512) := (bif_k K rfl rfl)
theorem ref03_Value_r17 : P83 1 C83.r.r.r.r.r.r.r.l (S83_10 n_ y1509 y1512) k = k ⟨[(2, rC tsNode n_), (4, rF 0), (8, rF 1), (79, rb (ref03_Value_r17_p n_ y1512))], [[di 0, di 0, di 0, di 0], (tsI3.leaves y1509)], [], 101⟩ := Eq.trans (by kernel_rfl) (ref03_Value_r17_n n_ y1512 (fun y1514 : Bool => k ⟨[(2, rC tsNode n_), (4, rF 0), (8, rF 1), (79, rb y1514)], [[di 0, di 0, di 0, di 0], (tsI3.leaves y1509)], [], 101⟩))
abbrev S83_11 : St := ⟨[(2, rC tsNode n_), (4, rF 0), (8, rF 1)], [[di 0, di 0, di 0, di 0], (tsI3.leaves y1509)], [], 101⟩
abbrev S83_12 : St := ⟨[(4, rF 0), (5, ri 12)], [[di 0, di 0, di 0, di 0], []], [], 101⟩
theorem ref03_Value_fzx6 : P83 1 C83.r.r.r.r.r.r.r.l.r.t (S83_11 n_ y1509) k = k S83_12 := by kernel_rfl
abbrev S83_13 : St := ⟨[(2, rC tsNode n_), (4, rF 0), (8, rF 1), (11, ri 0)], [[di 0, di 0, di 0, di 0], (tsI3.leaves y1509)], [], 101⟩
theorem ref03_Value_f20 : P83 1 C83.r.r.r.r.r.r.r.r.l (S83_11 n_ y1509) k = k (S83_13 n_ y1509) := by kernel_rfl
abbrev S83_14 : St := ⟨[(2, rC tsNode n_), (4, rF 0), (8, rF 1), (11, ri s1526)], [[di 0, di 0, di 0, di 0], (tsI3.leaves y1509)], [], 101⟩
theorem ref03_Value_fzx7 : P83 1 C83.r.r.r.r.r.r.r.r.l.r.b.b.l (S83_14 n_ y1509 s1526) k = k ⟨[(2, rC tsNode n_), (4, rF 0), (8, rF 1), (11, ri s1526), (85, rb (decide (s1526 < (n_.2.2.2.2.2.2.2.2.2.2.2.2.2.length : Int))))], [[di 0, di 0, di 0, di 0], (tsI3.leaves y1509)], [], 101⟩ := by kernel_rfl
def ref03_Value_r22_p : Option Bool := (bif (decide ((0 : Int) ≤ s1526)) then (bif (decide (s1526 < (n_.2.2.2.2.2.2.2.2.2.2.2.2.2.length : Int))) then (some (!(ref03_in (IntKind.wrap .i64 (gt n_.2.2.2.2.2.2.2.2.2.2.2.2.2 s1526 (0 : Int))) (-16777216 : Int) (16777216 : Int)))) else none) else none)
theorem ref03_Value_r22 : P83 1 C83.r.r.r.r.r.r.r.r.l.r.b.b.r.l.b (S83_14 n_ y1509 s1526) k = Option.bind (ref03_Value_r22_p n_ s1526) (fun y1528 : Bool => k ⟨[(2, rC tsNode n_), (4, rF 0), (8, rF 1), (11, ri s1526), (95, rb y1528)], [[di 0, di 0, di 0, di 0], (tsI3.leaves y1509)], [], 101⟩) := .trans (by kernel_rfl) (bif_b (bif_b some_b none_b) none_b)
theorem ref03_Value_fzx8 : P83 1 C83.r.r.r.r.r.r.r.r.l.r.b.b.r.l.b.r.t (S83_14 n_ y1509 s1526) k = k S83_12 := by kernel_rfl
theorem ref03_Value_r21 : R83 C83.r.r.r.r.r.r.r.r.l.r.b.b.r.r (S83_14 n_ y1509 s1526) q = q .normal ⟨[(2, rC tsNode n_), (4, rF 0), (8, rF 1), (11, ri (IntKind.wrap .i64 (s1526 + 1)))], [[di 0, di 0, di 0, di 0], (tsI3.leaves y1509)], [], 101⟩ := by kernel_rfl
def ref03_Value_l20_p : Option (Int ⊕ (Int ⊕ Unit)) := (bif (decide (s1526 < (n_.2.2.2.2.2.2.2.2.2.2.2.2.2.length : Int))) then (Option.bind (ref03_Value_r22_p n_ s1526) (fun y1528 : Bool => (bif y1528 then (some (Sum.inr (Sum.inr ()))) else (some (Sum.inl (IntKind.wrap .i64 (s1526 + 1))))))) else (some (Sum.inr (Sum.inl s1526))))
abbrev S83_15 (y1529 : Int) : St := ⟨[(2, rC tsNode n_), (4, rF 0), (8, rF 1), (11, ri y1529)], [[di 0, di 0, di 0, di 0], (tsI3.leaves y1509)], [], 101⟩
theorem ref03_Value_l20_b : R83 C83.r.r.r.r.r.r.r.r.l.r.b.b (S83_14 n_ y1509 s1526) (loopKont 2 q) = Option.bind (ref03_Value_l20_p n_ s1526) (either (fun y : Int => q .normal ⟨[(2, rC tsNode n_), (4, rF 0), (8, rF 1), (11, ri y)], [[di 0, di 0, di 0, di 0], (tsI3.leaves y1509)], [], 101⟩) (either (fun y1529 : Int => q (.exit 4) (S83_15 n_ y1509 y1529)) (fun y1530 : Unit => q .ret S83_12))) := by
  refine .trans ?_ (bif_b (bind_b fun y1528 => (bif_b e3_2 e3_0)) e3_1)
  refine .trans seq_push ?_
  refine (pre1 (ref03_Value_fzx7 n_ y1509 s1526 _)).trans ?_
  refine (cond_e (b := (decide (s1526 < (n_.2.2.2.2.2.2.2.2.2.2.2.2.2.length : Int)))) (st' := (S83_14 n_ y1509 s1526)) ).trans (bif_g ?_ ?_)
  · refine (skip_eq).trans ?_
    refine (seqC_normal (st' := (S83_14 n_ y1509 s1526))).trans ?_
    refine .trans seq_push ?_
    refine (block_push (id := 5)).trans ?_
    refine (pre1 (ref03_Value_r22 n_ y1509 s1526 _)).trans (bind_g fun y1528 => ?_)
    refine (cond_e (b := y1528) (st' := (S83_14 n_ y1509 s1526)) ).trans (bif_g ?_ ?_)
    · refine (pre1 (ref03_Value_fzx8 n_ y1509 s1526 _)).trans ?_
      refine (ret_eq).trans ?_
      refine block_ret.trans ?_
      refine seqC_ret.trans ?_
      kernel_rfl
    · refine (skip_eq).trans ?_
      refine block_normal.trans ?_
      refine (seqC_normal (st' := (S83_14 n_ y1509 s1526))).trans ?_
      refine (ref03_Value_r21 n_ y1509 s1526 _).trans ?_
      kernel_rfl
  · refine ((exit_eq (j := 4))).trans ?_
    refine seqC_exit.trans ?_
    kernel_rfl
theorem ref03_Value_l20 : R83 C83.r.r.r.r.r.r.r.r.l.r.b (S83_13 n_ y1509) q = Option.bind (iterN (ref03_Value_l20_p n_) LL (0 : Int)) (either (fun y1529 : Int => q (.exit 4) (S83_15 n_ y1509 y1529)) (fun y1530 : Unit => q .ret S83_12)) :=
  Eq.trans (by kernel_rfl) (loop_iter2 (S := fun s1526 : Int => (S83_14 n_ y1509 s1526)) (Y1 := fun y1529 : Int => ((.exit 4), (S83_15 n_ y1509 y1529))) (Y2 := fun y1530 : Unit => (.ret, S83_12)) (fun s q => ref03_Value_l20_b n_ y1509 s q) (fun z => rfl) (fun z => rfl) LL (0 : Int))
theorem ref03_Value_fzx9 : P83 1 C83.r.r.r.r.r.r.r.r.r (S83_11 n_ y1509) k = k ⟨[(4, rF 0), (5, ri 0)], [[di y1509.1, di y1509.2.1, di y1509.2.2, di n_.2.2.2.2.2.2.2.2.1], []], [], 101⟩ := by kernel_rfl
/-- quilt/quiltref03.Value -/
def ref03_Value : Option (I4 × Int) := (bif (!(ref03_node n_ (l_.length : Int))) then (some (((0 : Int), (0 : Int), (0 : Int), (0 : Int)), (11 : Int))) else (Option.bind (iterN (ref03_Value_l4_p n_ l_) LL (0 : Int)) (either (fun y1464 : Int => (Option.bind (iterN (ref03_Value_l9_p l_) LL (0 : Int)) (either (fun y1480 : Int => (Option.bind (ref03_made n_ l_) (fun y1509 : I3 => (bif ((ref02_May y1509) != 0) then (some (((0 : Int), (0 : Int), (0 : Int), (0 : Int)), (10 : Int))) else (Option.bind (ref03_Value_r16_p n_ l_) (fun y1512 : (Int × Int) => (bif (ref03_Value_r17_p n_ y1512) then (some (((0 : Int), (0 : Int), (0 : Int), (0 : Int)), (12 : Int))) else (Option.bind (iterN (ref03_Value_l20_p n_) LL (0 : Int)) (either (fun y1529 : Int => (some ((y1509.1, y1509.2.1, y1509.2.2, n_.2.2.2.2.2.2.2.2.1), (0 : Int)))) (fun y1530 : Unit => (some (((0 : Int), (0 : Int), (0 : Int), (0 : Int)), (12 : Int))))))))))))) (fun y1481 : Unit => (some (((0 : Int), (0 : Int), (0 : Int), (0 : Int)), (10 : Int))))))) (fun y1465 : Unit => (some (((0 : Int), (0 : Int), (0 : Int), (0 : Int)), (11 : Int)))))))
theorem ref03_Value_is : stepS E cp79 ce4 17 [rA tsNode n_, rl tsI4 l_] = Option.bind (ref03_Value n_ l_) (fun y : (I4 × Int) => some (.tup [rA tsI4 y.1, ri y.2] : R)) := by
  refine .trans ?_ (bif_b some_b (bind_b (either_b (fun y1464 => (bind_b (either_b (fun y1480 => (bind_b fun y1509 => (bif_b some_b (bind_b fun y1512 => (bif_b some_b (bind_b (either_b (fun y1529 => some_b) (fun y1530 => some_b)))))))) (fun y1481 => some_b)))) (fun y1465 => some_b))))
  refine (stepG_is (nt := 101) (regs := [(0, rA tsNode n_), (1, rl tsI4 l_)])).trans ?_
  refine (pre1 (ref03_Value_f1 n_ l_ _)).trans ?_
  refine .trans seq_push ?_
  refine (pre1 (ref03_Value_f1000002 n_ l_ _)).trans ?_
  refine (cond_e (b := (!(ref03_node n_ (l_.length : Int)))) (st' := (S83_0 n_ l_)) ).trans (bif_g ?_ ?_)
  · refine (pre1 (ref03_Value_fz n_ l_ _)).trans ?_
    refine (ret_eq).trans ?_
    refine seqC_ret.trans ?_
    kernel_rfl
  · refine (skip_eq).trans ?_
    refine (seqC_normal (st' := (S83_0 n_ l_))).trans ?_
    refine .trans seq_push ?_
    refine (pre1 (ref03_Value_f4 n_ l_ _)).trans ?_
    refine (block_push (id := 0)).trans ?_
    refine (ref03_Value_l4 n_ l_ _).trans (bind_g (either_g (fun y1464 => ?_) (fun y1465 => ?_)))
    · refine block_same.trans ?_
      refine (seqC_normal (st' := (S83_0 n_ l_))).trans ?_
      refine .trans seq_push ?_
      refine (pre1 (ref03_Value_f9 n_ l_ _)).trans ?_
      refine (block_push (id := 2)).trans ?_
      refine (ref03_Value_l9 n_ l_ _).trans (bind_g (either_g (fun y1480 => ?_) (fun y1481 => ?_)))
      · refine block_same.trans ?_
        refine (seqC_normal (st' := (S83_0 n_ l_))).trans ?_
        refine (pre1 (ref03_Value_r13 n_ l_ _)).trans (bind_g fun y1509 => ?_)
        refine .trans seq_push ?_
        refine (pre1 (ref03_Value_f1000015 n_ l_ y1509 _)).trans ?_
        refine (cond_e (b := ((ref02_May y1509) != 0)) (st' := (S83_9 n_ l_ y1509)) ).trans (bif_g ?_ ?_)
        · refine (pre1 (ref03_Value_fzx5 n_ l_ y1509 _)).trans ?_
          refine (ret_eq).trans ?_
          refine seqC_ret.trans ?_
          kernel_rfl
        · refine (skip_eq).trans ?_
          refine (seqC_normal (st' := (S83_9 n_ l_ y1509))).trans ?_
          refine (pre1 (ref03_Value_r16 n_ l_ y1509 _)).trans (bind_g fun y1512 => ?_)
          refine .trans seq_push ?_
          refine (pre1 (ref03_Value_r17 n_ y1509 y1512 _)).trans ?_
          refine (cond_e (b := (ref03_Value_r17_p n_ y1512)) (st' := (S83_11 n_ y1509)) ).trans (bif_g ?_ ?_)
          · refine (pre1 (ref03_Value_fzx6 n_ y1509 _)).trans ?_
            refine (ret_eq).trans ?_
            refine seqC_ret.trans ?_
            kernel_rfl
          · refine (skip_eq).trans ?_
            refine (seqC_normal (st' := (S83_11 n_ y1509))).trans ?_
            refine .trans seq_push ?_
            refine (pre1 (ref03_Value_f20 n_ y1509 _)).trans ?_
            refine (block_push (id := 4)).trans ?_
            refine (ref03_Value_l20 n_ y1509 _).trans (bind_g (either_g (fun y1529 => ?_) (fun y1530 => ?_)))
            · refine block_same.trans ?_
              refine (seqC_normal (st' := (S83_11 n_ y1509))).trans ?_
              refine (pre1 (ref03_Value_fzx9 n_ y1509 _)).trans ?_
              refine (ret_eq).trans ?_
              kernel_rfl
            · refine block_ret.trans ?_
              refine seqC_ret.trans ?_
              kernel_rfl
      · refine block_ret.trans ?_
        refine seqC_ret.trans ?_
        kernel_rfl
    · refine block_ret.trans ?_
      refine seqC_ret.trans ?_
      kernel_rfl
noncomputable def cp80 : CallP := withC cp79 17 [(.agg tsNode), (pL tsI4)] (.tup [(.agg tsI4), pI]) (fun y : (I4 × Int) => (y.1, y.2, ())) (fun x => ref03_Value x.1 x.2.1)
theorem cp80_ok : PureOK E cp80 := conS eok cp79_ok ce4_ok fun x => Eq.mp (by kernel_rfl) (ref03_Value_is x.1 x.2.1)
end
end Go.V.P
