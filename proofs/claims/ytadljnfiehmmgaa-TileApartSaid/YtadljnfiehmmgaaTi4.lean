/- What functions compute. -/
import Derived.Test.YtadljnfiehmmgaaTi3
namespace Go.V.P
open Go.RowKit Go.V Go.Proofs
set_option linter.unusedVariables false
set_option maxRecDepth 100000
section
variable {α β : Type} (n_ : Node) (l_ : (List I4)) (s629 : Int) (s647 : Int) (y679 : I3) (y682 : (Int × Int)) (s696 : Int) (k : St → Option α) (q : Kont α)
noncomputable abbrev C57 := codeOf E.P 11
noncomputable abbrev P57 := @preK α E 11 cp57 noE
noncomputable abbrev R57 := @runCode α E 11 cp57 noE
abbrev S57_0 : St := ⟨[(1, rl tsI4 l_), (2, rC tsNode n_), (4, rF 0)], [[di 0, di 0, di 0, di 0]], [], 101⟩
theorem ref03_Value_f1 : P57 1 C57 ⟨[(0, rA tsNode n_), (1, rl tsI4 l_)], [], [], 101⟩ k = k (S57_0 n_ l_) := by kernel_rfl
theorem ref03_Value_f1000002 : P57 1 C57.r.l (S57_0 n_ l_) k = k ⟨[(1, rl tsI4 l_), (2, rC tsNode n_), (4, rF 0), (16, rb (!(ref03_node n_ (l_.length : Int))))], [[di 0, di 0, di 0, di 0]], [], 101⟩ := by kernel_rfl
abbrev S57_1 : St := ⟨[(4, rF 0), (5, ri 11)], [[di 0, di 0, di 0, di 0]], [], 101⟩
theorem ref03_Value_fz : P57 1 C57.r.l.r.t (S57_0 n_ l_) k = k S57_1 := by kernel_rfl
abbrev S57_2 : St := ⟨[(1, rl tsI4 l_), (2, rC tsNode n_), (4, rF 0), (6, ri 0)], [[di 0, di 0, di 0, di 0]], [], 101⟩
theorem ref03_Value_f4 : P57 1 C57.r.r.l (S57_0 n_ l_) k = k (S57_2 n_ l_) := by kernel_rfl
abbrev S57_3 : St := ⟨[(1, rl tsI4 l_), (2, rC tsNode n_), (4, rF 0), (6, ri s629)], [[di 0, di 0, di 0, di 0]], [], 101⟩
theorem ref03_Value_fzx1 : P57 1 C57.r.r.l.r.b.b.l (S57_3 n_ l_ s629) k = k ⟨[(1, rl tsI4 l_), (2, rC tsNode n_), (4, rF 0), (6, ri s629), (21, rb (decide (s629 < (l_.length : Int))))], [[di 0, di 0, di 0, di 0]], [], 101⟩ := by kernel_rfl
def ref03_Value_r6_p : Option Bool := (bif (ref03_keeps n_.1) then (bif (decide ((0 : Int) ≤ s629)) then (bif (decide (s629 < (l_.length : Int))) then (some (((gt l_ s629 dI4).2.2.2) != n_.2.2.2.2.2.2.2.2.1)) else none) else none) else (some false))
theorem ref03_Value_r6 : P57 1 C57.r.r.l.r.b.b.r.l.b (S57_3 n_ l_ s629) k = Option.bind (ref03_Value_r6_p n_ l_ s629) (fun y631 : Bool => k ⟨[(1, rl tsI4 l_), (2, rC tsNode n_), (4, rF 0), (6, ri s629), (36, rb y631)], [[di 0, di 0, di 0, di 0]], [], 101⟩) := .trans (by kernel_rfl) (bif_b (bif_b (bif_b some_b none_b) none_b) some_b)
theorem ref03_Value_fzx2 : P57 1 C57.r.r.l.r.b.b.r.l.b.r.t (S57_3 n_ l_ s629) k = k S57_1 := by kernel_rfl
theorem ref03_Value_r5 : R57 C57.r.r.l.r.b.b.r.r (S57_3 n_ l_ s629) q = q .normal ⟨[(1, rl tsI4 l_), (2, rC tsNode n_), (4, rF 0), (6, ri (IntKind.wrap .i64 (s629 + 1)))], [[di 0, di 0, di 0, di 0]], [], 101⟩ := by kernel_rfl
def ref03_Value_l4_p : Option (Int ⊕ (Int ⊕ Unit)) := (bif (decide (s629 < (l_.length : Int))) then (Option.bind (ref03_Value_r6_p n_ l_ s629) (fun y631 : Bool => (bif y631 then (some (Sum.inr (Sum.inr ()))) else (some (Sum.inl (IntKind.wrap .i64 (s629 + 1))))))) else (some (Sum.inr (Sum.inl s629))))
abbrev S57_4 (y632 : Int) : St := ⟨[(1, rl tsI4 l_), (2, rC tsNode n_), (4, rF 0), (6, ri y632)], [[di 0, di 0, di 0, di 0]], [], 101⟩
theorem ref03_Value_l4_b : R57 C57.r.r.l.r.b.b (S57_3 n_ l_ s629) (loopKont 1 q) = Option.bind (ref03_Value_l4_p n_ l_ s629) (either (fun y : Int => q .normal ⟨[(1, rl tsI4 l_), (2, rC tsNode n_), (4, rF 0), (6, ri y)], [[di 0, di 0, di 0, di 0]], [], 101⟩) (either (fun y632 : Int => q (.exit 0) (S57_4 n_ l_ y632)) (fun y633 : Unit => q .ret S57_1))) := by
  refine .trans ?_ (bif_b (bind_b fun y631 => (bif_b e3_2 e3_0)) e3_1)
  refine .trans seq_push ?_
  refine (pre1 (ref03_Value_fzx1 n_ l_ s629 _)).trans ?_
  refine (cond_e (b := (decide (s629 < (l_.length : Int)))) (st' := (S57_3 n_ l_ s629)) ).trans (bif_g ?_ ?_)
  · refine (skip_eq).trans ?_
    refine (seqC_normal (st' := (S57_3 n_ l_ s629))).trans ?_
    refine .trans seq_push ?_
    refine (block_push (id := 1)).trans ?_
    refine (pre1 (ref03_Value_r6 n_ l_ s629 _)).trans (bind_g fun y631 => ?_)
    refine (cond_e (b := y631) (st' := (S57_3 n_ l_ s629)) ).trans (bif_g ?_ ?_)
    · refine (pre1 (ref03_Value_fzx2 n_ l_ s629 _)).trans ?_
      refine (ret_eq).trans ?_
      refine block_ret.trans ?_
      refine seqC_ret.trans ?_
      kernel_rfl
    · refine (skip_eq).trans ?_
      refine block_normal.trans ?_
      refine (seqC_normal (st' := (S57_3 n_ l_ s629))).trans ?_
      refine (ref03_Value_r5 n_ l_ s629 _).trans ?_
      kernel_rfl
  · refine ((exit_eq (j := 0))).trans ?_
    refine seqC_exit.trans ?_
    kernel_rfl
theorem ref03_Value_l4 : R57 C57.r.r.l.r.b (S57_2 n_ l_) q = Option.bind (iterN (ref03_Value_l4_p n_ l_) LL (0 : Int)) (either (fun y632 : Int => q (.exit 0) (S57_4 n_ l_ y632)) (fun y633 : Unit => q .ret S57_1)) :=
  Eq.trans (by kernel_rfl) (loop_iter2 (S := fun s629 : Int => (S57_3 n_ l_ s629)) (Y1 := fun y632 : Int => ((.exit 0), (S57_4 n_ l_ y632))) (Y2 := fun y633 : Unit => (.ret, S57_1)) (fun s q => ref03_Value_l4_b n_ l_ s q) (fun z => rfl) (fun z => rfl) LL (0 : Int))
abbrev S57_5 : St := ⟨[(1, rl tsI4 l_), (2, rC tsNode n_), (4, rF 0), (7, ri 0)], [[di 0, di 0, di 0, di 0]], [], 101⟩
theorem ref03_Value_f9 : P57 1 C57.r.r.r.l (S57_0 n_ l_) k = k (S57_5 n_ l_) := by kernel_rfl
abbrev S57_6 : St := ⟨[(1, rl tsI4 l_), (2, rC tsNode n_), (4, rF 0), (7, ri s647)], [[di 0, di 0, di 0, di 0]], [], 101⟩
theorem ref03_Value_fzx3 : P57 1 C57.r.r.r.l.r.b.b.l (S57_6 n_ l_ s647) k = k ⟨[(1, rl tsI4 l_), (2, rC tsNode n_), (4, rF 0), (7, ri s647), (41, rb (decide (s647 < (l_.length : Int))))], [[di 0, di 0, di 0, di 0]], [], 101⟩ := by kernel_rfl
def ref03_Value_r11_p : Option Bool := (bif (decide ((0 : Int) ≤ s647)) then (bif (decide (s647 < (l_.length : Int))) then (some ((ref02_May ((gt l_ s647 dI4).1, (gt l_ s647 dI4).2.1, (gt l_ s647 dI4).2.2.1)) != 0)) else none) else none)
theorem ref03_Value_r11 : P57 1 C57.r.r.r.l.r.b.b.r.l.b (S57_6 n_ l_ s647) k = Option.bind (ref03_Value_r11_p l_ s647) (fun y649 : Bool => k ⟨[(1, rl tsI4 l_), (2, rC tsNode n_), (4, rF 0), (7, ri s647), (50, rb y649)], [[di 0, di 0, di 0, di 0]], [], 101⟩) := .trans (by kernel_rfl) (bif_b (bif_b some_b none_b) none_b)
abbrev S57_7 : St := ⟨[(4, rF 0), (5, ri 10)], [[di 0, di 0, di 0, di 0]], [], 101⟩
theorem ref03_Value_fzx4 : P57 1 C57.r.r.r.l.r.b.b.r.l.b.r.t (S57_6 n_ l_ s647) k = k S57_7 := by kernel_rfl
theorem ref03_Value_r10 : R57 C57.r.r.r.l.r.b.b.r.r (S57_6 n_ l_ s647) q = q .normal ⟨[(1, rl tsI4 l_), (2, rC tsNode n_), (4, rF 0), (7, ri (IntKind.wrap .i64 (s647 + 1)))], [[di 0, di 0, di 0, di 0]], [], 101⟩ := by kernel_rfl
def ref03_Value_l9_p : Option (Int ⊕ (Int ⊕ Unit)) := (bif (decide (s647 < (l_.length : Int))) then (Option.bind (ref03_Value_r11_p l_ s647) (fun y649 : Bool => (bif y649 then (some (Sum.inr (Sum.inr ()))) else (some (Sum.inl (IntKind.wrap .i64 (s647 + 1))))))) else (some (Sum.inr (Sum.inl s647))))
abbrev S57_8 (y650 : Int) : St := ⟨[(1, rl tsI4 l_), (2, rC tsNode n_), (4, rF 0), (7, ri y650)], [[di 0, di 0, di 0, di 0]], [], 101⟩
theorem ref03_Value_l9_b : R57 C57.r.r.r.l.r.b.b (S57_6 n_ l_ s647) (loopKont 1 q) = Option.bind (ref03_Value_l9_p l_ s647) (either (fun y : Int => q .normal ⟨[(1, rl tsI4 l_), (2, rC tsNode n_), (4, rF 0), (7, ri y)], [[di 0, di 0, di 0, di 0]], [], 101⟩) (either (fun y650 : Int => q (.exit 2) (S57_8 n_ l_ y650)) (fun y651 : Unit => q .ret S57_7))) := by
  refine .trans ?_ (bif_b (bind_b fun y649 => (bif_b e3_2 e3_0)) e3_1)
  refine .trans seq_push ?_
  refine (pre1 (ref03_Value_fzx3 n_ l_ s647 _)).trans ?_
  refine (cond_e (b := (decide (s647 < (l_.length : Int)))) (st' := (S57_6 n_ l_ s647)) ).trans (bif_g ?_ ?_)
  · refine (skip_eq).trans ?_
    refine (seqC_normal (st' := (S57_6 n_ l_ s647))).trans ?_
    refine .trans seq_push ?_
    refine (block_push (id := 3)).trans ?_
    refine (pre1 (ref03_Value_r11 n_ l_ s647 _)).trans (bind_g fun y649 => ?_)
    refine (cond_e (b := y649) (st' := (S57_6 n_ l_ s647)) ).trans (bif_g ?_ ?_)
    · refine (pre1 (ref03_Value_fzx4 n_ l_ s647 _)).trans ?_
      refine (ret_eq).trans ?_
      refine block_ret.trans ?_
      refine seqC_ret.trans ?_
      kernel_rfl
    · refine (skip_eq).trans ?_
      refine block_normal.trans ?_
      refine (seqC_normal (st' := (S57_6 n_ l_ s647))).trans ?_
      refine (ref03_Value_r10 n_ l_ s647 _).trans ?_
      kernel_rfl
  · refine ((exit_eq (j := 2))).trans ?_
    refine seqC_exit.trans ?_
    kernel_rfl
theorem ref03_Value_l9 : R57 C57.r.r.r.l.r.b (S57_5 n_ l_) q = Option.bind (iterN (ref03_Value_l9_p l_) LL (0 : Int)) (either (fun y650 : Int => q (.exit 2) (S57_8 n_ l_ y650)) (fun y651 : Unit => q .ret S57_7)) :=
  Eq.trans (by kernel_rfl) (loop_iter2 (S := fun s647 : Int => (S57_6 n_ l_ s647)) (Y1 := fun y650 : Int => ((.exit 2), (S57_8 n_ l_ y650))) (Y2 := fun y651 : Unit => (.ret, S57_7)) (fun s q => ref03_Value_l9_b n_ l_ s q) (fun z => rfl) (fun z => rfl) LL (0 : Int))
abbrev S57_9 : St := ⟨[(1, rl tsI4 l_), (2, rC tsNode n_), (4, rF 0), (8, rF 1)], [[di 0, di 0, di 0, di 0], (tsI3.leaves y679)], [], 101⟩
theorem ref03_Value_r13 : P57 1 C57.r.r.r.r (S57_0 n_ l_) k = Option.bind (ref03_made n_ l_) fun y679 : I3 => k (S57_9 n_ l_ y679) := by kernel_rfl
theorem ref03_Value_f1000015 : P57 1 C57.r.r.r.r.r.l (S57_9 n_ l_ y679) k = k ⟨[(1, rl tsI4 l_), (2, rC tsNode n_), (4, rF 0), (8, rF 1), (57, rb ((ref02_May y679) != 0))], [[di 0, di 0, di 0, di 0], (tsI3.leaves y679)], [], 101⟩ := by kernel_rfl
theorem ref03_Value_fzx5 : P57 1 C57.r.r.r.r.r.l.r.t (S57_9 n_ l_ y679) k = k ⟨[(4, rF 0), (5, ri 10)], [[di 0, di 0, di 0, di 0], []], [], 101⟩ := by kernel_rfl
def ref03_Value_r16_p : Option (Int × Int) := (bif (decide ((0 : Int) < (l_.length : Int))) then (some (ref03_many n_ ((gt l_ (0 : Int) dI4).1, (gt l_ (0 : Int) dI4).2.1, (gt l_ (0 : Int) dI4).2.2.1))) else none)
abbrev S57_10 : St := ⟨[(2, rC tsNode n_), (4, rF 0), (8, rF 1), (9, ri y682.1), (10, ri y682.2)], [[di 0, di 0, di 0, di 0], (tsI3.leaves y679)], [], 101⟩
theorem ref03_Value_r16 : P57 1 C57.r.r.r.r.r.r (S57_9 n_ l_ y679) k = Option.bind (ref03_Value_r16_p n_ l_) (fun y682 : (Int × Int) => k (S57_10 n_ y679 y682)) := .trans (by kernel_rfl) (bif_b some_b none_b)
def ref03_Value_r17_q (K : Bool → β) : β := (bif ((n_.2.2.2.2.2.2.2.2.2.2.2.2.1.length : Int) != y682.1) then (K true) else (K ((n_.2.2.2.2.2.2.2.2.2.2.2.2.2.length : Int) != y682.2)))
def ref03_Value_r17_p : Bool := ref03_Value_r17_q n_ y682 (fun y => y)
theorem ref03_Value_r17_n (K : Bool → β) : ref03_Value_r17_q n_ y682 K = K (ref03_Value_r17_p n_ y682) := (bif_k K rfl rfl)
theorem ref03_Value_r17 : P57 1 C57.r.r.r.r.r.r.r.l (S57_10 n_ y679 y682) k = k ⟨[(2, rC tsNode n_), (4, rF 0), (8, rF 1), (79, rb (ref03_Value_r17_p n_ y682))], [[di 0, di 0, di 0, di 0], (tsI3.leaves y679)], [], 101⟩ := Eq.trans (by kernel_rfl) (ref03_Value_r17_n n_ y682 (fun y684 : Bool => k ⟨[(2, rC tsNode n_), (4, rF 0), (8, rF 1), (79, rb y684)], [[di 0, di 0, di 0, di 0], (tsI3.leaves y679)], [], 101⟩))
abbrev S57_11 : St := ⟨[(2, rC tsNode n_), (4, rF 0), (8, rF 1)], [[di 0, di 0, di 0, di 0], (tsI3.leaves y679)], [], 101⟩
abbrev S57_12 : St := ⟨[(4, rF 0), (5, ri 12)], [[di 0, di 0, di 0, di 0], []], [], 101⟩
theorem ref03_Value_fzx6 : P57 1 C57.r.r.r.r.r.r.r.l.r.t (S57_11 n_ y679) k = k S57_12 := by kernel_rfl
abbrev S57_13 : St := ⟨[(2, rC tsNode n_), (4, rF 0), (8, rF 1), (11, ri 0)], [[di 0, di 0, di 0, di 0], (tsI3.leaves y679)], [], 101⟩
theorem ref03_Value_f20 : P57 1 C57.r.r.r.r.r.r.r.r.l (S57_11 n_ y679) k = k (S57_13 n_ y679) := by kernel_rfl
abbrev S57_14 : St := ⟨[(2, rC tsNode n_), (4, rF 0), (8, rF 1), (11, ri s696)], [[di 0, di 0, di 0, di 0], (tsI3.leaves y679)], [], 101⟩
theorem ref03_Value_fzx7 : P57 1 C57.r.r.r.r.r.r.r.r.l.r.b.b.l (S57_14 n_ y679 s696) k = k ⟨[(2, rC tsNode n_), (4, rF 0), (8, rF 1), (11, ri s696), (85, rb (decide (s696 < (n_.2.2.2.2.2.2.2.2.2.2.2.2.2.length : Int))))], [[di 0, di 0, di 0, di 0], (tsI3.leaves y679)], [], 101⟩ := by kernel_rfl
def ref03_Value_r22_p : Option Bool := (bif (decide ((0 : Int) ≤ s696)) then (bif (decide (s696 < (n_.2.2.2.2.2.2.2.2.2.2.2.2.2.length : Int))) then (some (!(ref03_in (IntKind.wrap .i64 (gt n_.2.2.2.2.2.2.2.2.2.2.2.2.2 s696 (0 : Int))) (-16777216 : Int) (16777216 : Int)))) else none) else none)
theorem ref03_Value_r22 : P57 1 C57.r.r.r.r.r.r.r.r.l.r.b.b.r.l.b (S57_14 n_ y679 s696) k = Option.bind (ref03_Value_r22_p n_ s696) (fun y698 : Bool => k ⟨[(2, rC tsNode n_), (4, rF 0), (8, rF 1), (11, ri s696), (95, rb y698)], [[di 0, di 0, di 0, di 0], (tsI3.leaves y679)], [], 101⟩) := .trans (by kernel_rfl) (bif_b (bif_b some_b none_b) none_b)
theorem ref03_Value_fzx8 : P57 1 C57.r.r.r.r.r.r.r.r.l.r.b.b.r.l.b.r.t (S57_14 n_ y679 s696) k = k S57_12 := by kernel_rfl
theorem ref03_Value_r21 : R57 C57.r.r.r.r.r.r.r.r.l.r.b.b.r.r (S57_14 n_ y679 s696) q = q .normal ⟨[(2, rC tsNode n_), (4, rF 0), (8, rF 1), (11, ri (IntKind.wrap .i64 (s696 + 1)))], [[di 0, di 0, di 0, di 0], (tsI3.leaves y679)], [], 101⟩ := by kernel_rfl
def ref03_Value_l20_p : Option (Int ⊕ (Int ⊕ Unit)) := (bif (decide (s696 < (n_.2.2.2.2.2.2.2.2.2.2.2.2.2.length : Int))) then (Option.bind (ref03_Value_r22_p n_ s696) (fun y698 : Bool => (bif y698 then (some (Sum.inr (Sum.inr ()))) else (some (Sum.inl (IntKind.wrap .i64 (s696 + 1))))))) else (some (Sum.inr (Sum.inl s696))))
abbrev S57_15 (y699 : Int) : St := ⟨[(2, rC tsNode n_), (4, rF 0), (8, rF 1), (11, ri y699)], [[di 0, di 0, di 0, di 0], (tsI3.leaves y679)], [], 101⟩
theorem ref03_Value_l20_b : R57 C57.r.r.r.r.r.r.r.r.l.r.b.b (S57_14 n_ y679 s696) (loopKont 2 q) = Option.bind (ref03_Value_l20_p n_ s696) (either (fun y : Int => q .normal ⟨[(2, rC tsNode n_), (4, rF 0), (8, rF 1), (11, ri y)], [[di 0, di 0, di 0, di 0], (tsI3.leaves y679)], [], 101⟩) (either (fun y699 : Int => q (.exit 4) (S57_15 n_ y679 y699)) (fun y700 : Unit => q .ret S57_12))) := by
  refine .trans ?_ (bif_b (bind_b fun y698 => (bif_b e3_2 e3_0)) e3_1)
  refine .trans seq_push ?_
  refine (pre1 (ref03_Value_fzx7 n_ y679 s696 _)).trans ?_
  refine (cond_e (b := (decide (s696 < (n_.2.2.2.2.2.2.2.2.2.2.2.2.2.length : Int)))) (st' := (S57_14 n_ y679 s696)) ).trans (bif_g ?_ ?_)
  · refine (skip_eq).trans ?_
    refine (seqC_normal (st' := (S57_14 n_ y679 s696))).trans ?_
    refine .trans seq_push ?_
    refine (block_push (id := 5)).trans ?_
    refine (pre1 (ref03_Value_r22 n_ y679 s696 _)).trans (bind_g fun y698 => ?_)
    refine (cond_e (b := y698) (st' := (S57_14 n_ y679 s696)) ).trans (bif_g ?_ ?_)
    · refine (pre1 (ref03_Value_fzx8 n_ y679 s696 _)).trans ?_
      refine (ret_eq).trans ?_
      refine block_ret.trans ?_
      refine seqC_ret.trans ?_
      kernel_rfl
    · refine (skip_eq).trans ?_
      refine block_normal.trans ?_
      refine (seqC_normal (st' := (S57_14 n_ y679 s696))).trans ?_
      refine (ref03_Value_r21 n_ y679 s696 _).trans ?_
      kernel_rfl
  · refine ((exit_eq (j := 4))).trans ?_
    refine seqC_exit.trans ?_
    kernel_rfl
theorem ref03_Value_l20 : R57 C57.r.r.r.r.r.r.r.r.l.r.b (S57_13 n_ y679) q = Option.bind (iterN (ref03_Value_l20_p n_) LL (0 : Int)) (either (fun y699 : Int => q (.exit 4) (S57_15 n_ y679 y699)) (fun y700 : Unit => q .ret S57_12)) :=
  Eq.trans (by kernel_rfl) (loop_iter2 (S := fun s696 : Int => (S57_14 n_ y679 s696)) (Y1 := fun y699 : Int => ((.exit 4), (S57_15 n_ y679 y699))) (Y2 := fun y700 : Unit => (.ret, S57_12)) (fun s q => ref03_Value_l20_b n_ y679 s q) (fun z => rfl) (fun z => rfl) LL (0 : Int))
theorem ref03_Value_fzx9 : P57 1 C57.r.r.r.r.r.r.r.r.r (S57_11 n_ y679) k = k ⟨[(4, rF 0), (5, ri 0)], [[di y679.1, di y679.2.1, di y679.2.2, di n_.2.2.2.2.2.2.2.2.1], []], [], 101⟩ := by kernel_rfl
/-- quilt/quiltref03.Value -/
def ref03_Value : Option (I4 × Int) := (bif (!(ref03_node n_ (l_.length : Int))) then (some (((0 : Int), (0 : Int), (0 : Int), (0 : Int)), (11 : Int))) else (Option.bind (iterN (ref03_Value_l4_p n_ l_) LL (0 : Int)) (either (fun y632 : Int => (Option.bind (iterN (ref03_Value_l9_p l_) LL (0 : Int)) (either (fun y650 : Int => (Option.bind (ref03_made n_ l_) (fun y679 : I3 => (bif ((ref02_May y679) != 0) then (some (((0 : Int), (0 : Int), (0 : Int), (0 : Int)), (10 : Int))) else (Option.bind (ref03_Value_r16_p n_ l_) (fun y682 : (Int × Int) => (bif (ref03_Value_r17_p n_ y682) then (some (((0 : Int), (0 : Int), (0 : Int), (0 : Int)), (12 : Int))) else (Option.bind (iterN (ref03_Value_l20_p n_) LL (0 : Int)) (either (fun y699 : Int => (some ((y679.1, y679.2.1, y679.2.2, n_.2.2.2.2.2.2.2.2.1), (0 : Int)))) (fun y700 : Unit => (some (((0 : Int), (0 : Int), (0 : Int), (0 : Int)), (12 : Int))))))))))))) (fun y651 : Unit => (some (((0 : Int), (0 : Int), (0 : Int), (0 : Int)), (10 : Int))))))) (fun y633 : Unit => (some (((0 : Int), (0 : Int), (0 : Int), (0 : Int)), (11 : Int)))))))
theorem ref03_Value_is : stepS E cp57 noE 11 [rA tsNode n_, rl tsI4 l_] = Option.bind (ref03_Value n_ l_) (fun y : (I4 × Int) => some (.tup [rA tsI4 y.1, ri y.2] : R)) := by
  refine .trans ?_ (bif_b some_b (bind_b (either_b (fun y632 => (bind_b (either_b (fun y650 => (bind_b fun y679 => (bif_b some_b (bind_b fun y682 => (bif_b some_b (bind_b (either_b (fun y699 => some_b) (fun y700 => some_b)))))))) (fun y651 => some_b)))) (fun y633 => some_b))))
  refine (stepG_is (nt := 101) (regs := [(0, rA tsNode n_), (1, rl tsI4 l_)])).trans ?_
  refine (pre1 (ref03_Value_f1 n_ l_ _)).trans ?_
  refine .trans seq_push ?_
  refine (pre1 (ref03_Value_f1000002 n_ l_ _)).trans ?_
  refine (cond_e (b := (!(ref03_node n_ (l_.length : Int)))) (st' := (S57_0 n_ l_)) ).trans (bif_g ?_ ?_)
  · refine (pre1 (ref03_Value_fz n_ l_ _)).trans ?_
    refine (ret_eq).trans ?_
    refine seqC_ret.trans ?_
    kernel_rfl
  · refine (skip_eq).trans ?_
    refine (seqC_normal (st' := (S57_0 n_ l_))).trans ?_
    refine .trans seq_push ?_
    refine (pre1 (ref03_Value_f4 n_ l_ _)).trans ?_
    refine (block_push (id := 0)).trans ?_
    refine (ref03_Value_l4 n_ l_ _).trans (bind_g (either_g (fun y632 => ?_) (fun y633 => ?_)))
    · refine block_same.trans ?_
      refine (seqC_normal (st' := (S57_0 n_ l_))).trans ?_
      refine .trans seq_push ?_
      refine (pre1 (ref03_Value_f9 n_ l_ _)).trans ?_
      refine (block_push (id := 2)).trans ?_
      refine (ref03_Value_l9 n_ l_ _).trans (bind_g (either_g (fun y650 => ?_) (fun y651 => ?_)))
      · refine block_same.trans ?_
        refine (seqC_normal (st' := (S57_0 n_ l_))).trans ?_
        refine (pre1 (ref03_Value_r13 n_ l_ _)).trans (bind_g fun y679 => ?_)
        refine .trans seq_push ?_
        refine (pre1 (ref03_Value_f1000015 n_ l_ y679 _)).trans ?_
        refine (cond_e (b := ((ref02_May y679) != 0)) (st' := (S57_9 n_ l_ y679)) ).trans (bif_g ?_ ?_)
        · refine (pre1 (ref03_Value_fzx5 n_ l_ y679 _)).trans ?_
          refine (ret_eq).trans ?_
          refine seqC_ret.trans ?_
          kernel_rfl
        · refine (skip_eq).trans ?_
          refine (seqC_normal (st' := (S57_9 n_ l_ y679))).trans ?_
          refine (pre1 (ref03_Value_r16 n_ l_ y679 _)).trans (bind_g fun y682 => ?_)
          refine .trans seq_push ?_
          refine (pre1 (ref03_Value_r17 n_ y679 y682 _)).trans ?_
          refine (cond_e (b := (ref03_Value_r17_p n_ y682)) (st' := (S57_11 n_ y679)) ).trans (bif_g ?_ ?_)
          · refine (pre1 (ref03_Value_fzx6 n_ y679 _)).trans ?_
            refine (ret_eq).trans ?_
            refine seqC_ret.trans ?_
            kernel_rfl
          · refine (skip_eq).trans ?_
            refine (seqC_normal (st' := (S57_11 n_ y679))).trans ?_
            refine .trans seq_push ?_
            refine (pre1 (ref03_Value_f20 n_ y679 _)).trans ?_
            refine (block_push (id := 4)).trans ?_
            refine (ref03_Value_l20 n_ y679 _).trans (bind_g (either_g (fun y699 => ?_) (fun y700 => ?_)))
            · refine block_same.trans ?_
              refine (seqC_normal (st' := (S57_11 n_ y679))).trans ?_
              refine (pre1 (ref03_Value_fzx9 n_ y679 _)).trans ?_
              refine (ret_eq).trans ?_
              kernel_rfl
            · refine block_ret.trans ?_
              refine seqC_ret.trans ?_
              kernel_rfl
      · refine block_ret.trans ?_
        refine seqC_ret.trans ?_
        kernel_rfl
    · refine block_ret.trans ?_
      refine seqC_ret.trans ?_
      kernel_rfl
noncomputable def cp58 : CallP := withC cp57 11 [(.agg tsNode), (pL tsI4)] (.tup [(.agg tsI4), pI]) (fun y : (I4 × Int) => (y.1, y.2, ())) (fun x => ref03_Value x.1 x.2.1)
theorem cp58_ok : PureOK E cp58 := conS eok cp57_ok noE_ok fun x => Eq.mp (by kernel_rfl) (ref03_Value_is x.1 x.2.1)
end
section
variable {α β : Type} (op : Int) (s733 : Int) (k : St → Option α) (q : Kont α)
noncomputable abbrev C58 := codeOf E.P 15
noncomputable abbrev P58 := @preK α E 15 cp58 noE
noncomputable abbrev R58 := @runCode α E 15 cp58 noE
def ref15_Npu_r1_q (K : (List Int) → β) : β := (K [(1 : Int), (2 : Int), (4 : Int), (5 : Int), (6 : Int), (7 : Int), (8 : Int), (12 : Int)])
def ref15_Npu_r1_p : (List Int) := ref15_Npu_r1_q (fun y => y)
theorem ref15_Npu_r1_n (K : (List Int) → β) : ref15_Npu_r1_q K = K (ref15_Npu_r1_p) := rfl
abbrev S58_0 : St := ⟨[(0, ri op), (3, .one (.ow (.one (.int .i64)) ref15_Npu_r1_p (.v 3)))], [], [], 18⟩
theorem ref15_Npu_r1 : P58 2 C58 ⟨[(0, ri op)], [], [], 18⟩ k = k (S58_0 op) := Eq.trans (by kernel_rfl) (ref15_Npu_r1_n (fun y721 : (List Int) => k ⟨[(0, ri op), (3, .one (.ow (.one (.int .i64)) y721 (.v 3)))], [], [], 18⟩))
abbrev S58_1 : St := ⟨[(0, ri op), (3, .one (.ow (.one (.int .i64)) ref15_Npu_r1_p (.v 3))), (4, ri 0)], [], [], 18⟩
theorem ref15_Npu_f3 : P58 1 C58.r.r.l (S58_0 op) k = k (S58_1 op) := by kernel_rfl
abbrev S58_2 : St := ⟨[(0, ri op), (3, .one (.ow (.one (.int .i64)) ref15_Npu_r1_p (.v 3))), (4, ri s733)], [], [], 18⟩
theorem ref15_Npu_fz : P58 1 C58.r.r.l.r.b.b.l (S58_2 op s733) k = k ⟨[(0, ri op), (3, .one (.ow (.one (.int .i64)) ref15_Npu_r1_p (.v 3))), (4, ri s733), (9, rb (decide (s733 < (ref15_Npu_r1_p.length : Int))))], [], [], 18⟩ := by kernel_rfl
def ref15_Npu_r5_p : Option Unit := (bif (decide ((0 : Int) ≤ s733)) then (bif (decide (s733 < (ref15_Npu_r1_p.length : Int))) then (some ()) else none) else none)
theorem ref15_Npu_r5 : P58 1 C58.r.r.l.r.b.b.r.l.b (S58_2 op s733) k = Option.bind (ref15_Npu_r5_p s733) (fun y735 : Unit => k ⟨[(0, ri op), (3, .one (.ow (.one (.int .i64)) ref15_Npu_r1_p (.v 3))), (4, ri s733), (17, rb ((gt ref15_Npu_r1_p s733 (0 : Int)) == op))], [], [], 18⟩) := .trans (by kernel_rfl) (bif_b (bif_b some_b none_b) none_b)
abbrev S58_3 : St := ⟨[(2, rb true)], [], [], 18⟩
theorem ref15_Npu_fzx1 : P58 1 C58.r.r.l.r.b.b.r.l.b.r.t (S58_2 op s733) k = k S58_3 := by kernel_rfl
theorem ref15_Npu_r4 : R58 C58.r.r.l.r.b.b.r.r (S58_2 op s733) q = q .normal ⟨[(0, ri op), (3, .one (.ow (.one (.int .i64)) ref15_Npu_r1_p (.v 3))), (4, ri (IntKind.wrap .i64 (s733 + 1)))], [], [], 18⟩ := by kernel_rfl
def ref15_Npu_l3_p : Option (Int ⊕ (Int ⊕ Unit)) := (bif (decide (s733 < (ref15_Npu_r1_p.length : Int))) then (Option.bind (ref15_Npu_r5_p s733) (fun y735 : Unit => (bif ((gt ref15_Npu_r1_p s733 (0 : Int)) == op) then (some (Sum.inr (Sum.inr ()))) else (some (Sum.inl (IntKind.wrap .i64 (s733 + 1))))))) else (some (Sum.inr (Sum.inl s733))))
abbrev S58_4 (y736 : Int) : St := ⟨[(0, ri op), (3, .one (.ow (.one (.int .i64)) ref15_Npu_r1_p (.v 3))), (4, ri y736)], [], [], 18⟩
theorem ref15_Npu_l3_b : R58 C58.r.r.l.r.b.b (S58_2 op s733) (loopKont 0 q) = Option.bind (ref15_Npu_l3_p op s733) (either (fun y : Int => q .normal ⟨[(0, ri op), (3, .one (.ow (.one (.int .i64)) ref15_Npu_r1_p (.v 3))), (4, ri y)], [], [], 18⟩) (either (fun y736 : Int => q (.exit 0) (S58_4 op y736)) (fun y737 : Unit => q .ret S58_3))) := by
  refine .trans ?_ (bif_b (bind_b fun y735 => (bif_b e3_2 e3_0)) e3_1)
  refine .trans seq_push ?_
  refine (pre1 (ref15_Npu_fz op s733 _)).trans ?_
  refine (cond_e (b := (decide (s733 < (ref15_Npu_r1_p.length : Int)))) (st' := (S58_2 op s733)) ).trans (bif_g ?_ ?_)
  · refine (skip_eq).trans ?_
    refine (seqC_normal (st' := (S58_2 op s733))).trans ?_
    refine .trans seq_push ?_
    refine (block_push (id := 1)).trans ?_
    refine (pre1 (ref15_Npu_r5 op s733 _)).trans (bind_g fun y735 => ?_)
    refine (cond_e (b := ((gt ref15_Npu_r1_p s733 (0 : Int)) == op)) (st' := (S58_2 op s733)) ).trans (bif_g ?_ ?_)
    · refine (pre1 (ref15_Npu_fzx1 op s733 _)).trans ?_
      refine (ret_eq).trans ?_
      refine block_ret.trans ?_
      refine seqC_ret.trans ?_
      kernel_rfl
    · refine (skip_eq).trans ?_
      refine block_normal.trans ?_
      refine (seqC_normal (st' := (S58_2 op s733))).trans ?_
      refine (ref15_Npu_r4 op s733 _).trans ?_
      kernel_rfl
  · refine ((exit_eq (j := 0))).trans ?_
    refine seqC_exit.trans ?_
    kernel_rfl
theorem ref15_Npu_l3 : R58 C58.r.r.l.r.b (S58_1 op) q = Option.bind (iterN (ref15_Npu_l3_p op) LL (0 : Int)) (either (fun y736 : Int => q (.exit 0) (S58_4 op y736)) (fun y737 : Unit => q .ret S58_3)) :=
  Eq.trans (by kernel_rfl) (loop_iter2 (S := fun s733 : Int => (S58_2 op s733)) (Y1 := fun y736 : Int => ((.exit 0), (S58_4 op y736))) (Y2 := fun y737 : Unit => (.ret, S58_3)) (fun s q => ref15_Npu_l3_b op s q) (fun z => rfl) (fun z => rfl) LL (0 : Int))
theorem ref15_Npu_fzx2 : P58 1 C58.r.r.r ⟨[], [], [], 18⟩ k = k ⟨[(2, rb false)], [], [], 18⟩ := by kernel_rfl
/-- quilt/quiltref15.Npu -/
def ref15_Npu : Option Bool := (Option.bind (iterN (ref15_Npu_l3_p op) LL (0 : Int)) (either (fun y736 : Int => (some false)) (fun y737 : Unit => (some true))))
theorem ref15_Npu_is : stepS E cp58 noE 15 [ri op] = Option.bind (ref15_Npu op) (fun y : Bool => some (rb y : R)) := by
  refine .trans ?_ (bind_b (either_b (fun y736 => some_b) (fun y737 => some_b)))
  refine (stepG_is (nt := 18) (regs := [(0, ri op)])).trans ?_
  refine (pre2 (ref15_Npu_r1 op _)).trans ?_
  refine .trans seq_push ?_
  refine (pre1 (ref15_Npu_f3 op _)).trans ?_
  refine (block_push (id := 0)).trans ?_
  refine (ref15_Npu_l3 op _).trans (bind_g (either_g (fun y736 => ?_) (fun y737 => ?_)))
  · refine block_same.trans ?_
    refine (seqC_normal (st' := ⟨[], [], [], 18⟩)).trans ?_
    refine (pre1 (ref15_Npu_fzx2 _)).trans ?_
    refine (ret_eq).trans ?_
    kernel_rfl
  · refine block_ret.trans ?_
    refine seqC_ret.trans ?_
    kernel_rfl
noncomputable def cp59 : CallP := withC cp58 15 [pI] (.one pB) (fun y : Bool => y) (fun x => ref15_Npu x.1)
theorem cp59_ok : PureOK E cp59 := conS eok cp58_ok noE_ok fun x => Eq.mp (by kernel_rfl) (ref15_Npu_is x.1)
end
section
variable {α β : Type} (n_ : Node) (in_ : (List I4)) (rows : A2) (y590 : Bool) (y593 : (List I4)) (y600 : Node) (y701 : (I4 × Int)) (y704 : (Int × Int)) (y705 : (Int × Int)) (s716 : (Int × Int)) (y718 : Int) (y719 : (Int × Int)) (y720 : (Int × Int)) (y738 : Bool) (k : St → Option α) (q : Kont α)
noncomputable abbrev C59 := codeOf E.P 3
noncomputable abbrev P59 := @preK α E 3 cp59 noE
noncomputable abbrev R59 := @runCode α E 3 cp59 noE
abbrev S59_0 : St := ⟨[(1, rl tsI4 in_), (3, rF 0), (5, rC tsA2 rows), (7, rb y590)], [(tsNode.leaves n_)], [], 137⟩
theorem law16_TileRooms_r1 : P59 2 C59 ⟨[(0, rA tsNode n_), (1, rl tsI4 in_), (2, rA tsA2 rows)], [], [], 137⟩ k = Option.bind law16_shown fun y590 : Bool => k (S59_0 n_ in_ rows y590) := by kernel_rfl
abbrev S59_1 : St := ⟨[(1, rl tsI4 y593), (3, rF 0), (5, rC tsA2 rows), (7, rb y590)], [(tsNode.leaves n_)], [], 137⟩
theorem law16_TileRooms_r2 : P59 1 C59.r.r (S59_0 n_ in_ rows y590) k = Option.bind (law16_some in_) fun y593 : (List I4) => k (S59_1 n_ rows y590 y593) := by kernel_rfl
abbrev S59_2 : St := ⟨[(1, rl tsI4 y593), (3, rF 0), (5, rC tsA2 rows), (7, rb y590)], [(tsNode.leaves y600)], [], 137⟩
theorem law16_TileRooms_r3 : P59 1 C59.r.r.r (S59_1 n_ rows y590 y593) k = Option.bind (law16_few n_) fun y600 : Node => k (S59_2 rows y590 y593 y600) := by kernel_rfl
abbrev S59_3 : St := ⟨[(1, rl tsI4 y593), (3, rF 0), (5, rC tsA2 rows), (7, rb y590), (8, rF 1), (9, ri y701.2)], [(tsNode.leaves y600), (tsI4.leaves y701.1)], [], 137⟩
theorem law16_TileRooms_r4 : P59 1 C59.r.r.r.r (S59_2 rows y590 y593 y600) k = Option.bind (ref03_Value y600 y593) fun y701 : (I4 × Int) => k (S59_3 rows y590 y593 y600 y701) := by kernel_rfl
theorem law16_TileRooms_f1000006 : P59 1 C59.r.r.r.r.r.l (S59_3 rows y590 y593 y600 y701) k = k ⟨[(1, rl tsI4 y593), (3, rF 0), (5, rC tsA2 rows), (7, rb y590), (8, rF 1), (34, rb (y701.2 != 0))], [(tsNode.leaves y600), (tsI4.leaves y701.1)], [], 137⟩ := by kernel_rfl
abbrev S59_4 : St := ⟨[(1, rl tsI4 y593), (3, rF 0), (5, rC tsA2 rows), (7, rb y590), (8, rF 1)], [(tsNode.leaves y600), (tsI4.leaves y701.1)], [], 137⟩
theorem law16_TileRooms_fz : P59 1 C59.r.r.r.r.r.l.r.t (S59_4 rows y590 y593 y600 y701) k = k ⟨[(6, rb y590)], [[], []], [], 137⟩ := by kernel_rfl
def law16_TileRooms_r7_p : Option Unit := (bif (y701.1.1 == 0) then none else (some ()))
abbrev S59_5 : St := ⟨[(1, rl tsI4 y593), (3, rF 0), (5, rC tsA2 rows), (7, rb y590), (8, rF 1), (10, ri (IntKind.wrap .i64 ((1 : Int) + (Int.tmod (IntKind.wrap .i64 rows.1) y701.1.1))))], [(tsNode.leaves y600), (tsI4.leaves y701.1)], [], 137⟩
theorem law16_TileRooms_r7 : P59 1 C59.r.r.r.r.r.r (S59_4 rows y590 y593 y600 y701) k = Option.bind (law16_TileRooms_r7_p y701) (fun y702 : Unit => k (S59_5 rows y590 y593 y600 y701)) := .trans (by kernel_rfl) (bif_b none_b some_b)
def law16_TileRooms_r8_p : Option Unit := (bif (y701.1.1 == 0) then none else (some ()))
abbrev S59_6 : St := ⟨[(1, rl tsI4 y593), (3, rF 0), (7, rb y590), (8, rF 1), (10, ri (IntKind.wrap .i64 ((1 : Int) + (Int.tmod (IntKind.wrap .i64 rows.1) y701.1.1)))), (11, ri (IntKind.wrap .i64 ((1 : Int) + (Int.tmod (IntKind.wrap .i64 rows.2) y701.1.1))))], [(tsNode.leaves y600), (tsI4.leaves y701.1)], [], 137⟩
theorem law16_TileRooms_r8 : P59 1 C59.r.r.r.r.r.r.r (S59_5 rows y590 y593 y600 y701) k = Option.bind (law16_TileRooms_r8_p y701) (fun y703 : Unit => k (S59_6 rows y590 y593 y600 y701)) := .trans (by kernel_rfl) (bif_b none_b some_b)
abbrev S59_7 : St := ⟨[(1, rl tsI4 y593), (3, rF 0), (7, rb y590), (8, rF 1), (10, ri (IntKind.wrap .i64 ((1 : Int) + (Int.tmod (IntKind.wrap .i64 rows.1) y701.1.1)))), (11, ri (IntKind.wrap .i64 ((1 : Int) + (Int.tmod (IntKind.wrap .i64 rows.2) y701.1.1)))), (12, ri y704.1), (13, ri y704.2)], [(tsNode.leaves y600), (tsI4.leaves y701.1)], [], 137⟩
theorem law16_TileRooms_r9 : P59 1 C59.r.r.r.r.r.r.r.r (S59_6 rows y590 y593 y600 y701) k = Option.bind (tile_Need y600 y593 (min (IntKind.wrap .i64 ((1 : Int) + (Int.tmod (IntKind.wrap .i64 rows.1) y701.1.1))) (IntKind.wrap .i64 ((1 : Int) + (Int.tmod (IntKind.wrap .i64 rows.2) y701.1.1))))) fun y704 : (Int × Int) => k (S59_7 rows y590 y593 y600 y701 y704) := by kernel_rfl
abbrev S59_8 : St := ⟨[(1, rl tsI4 y593), (3, rF 0), (7, rb y590), (8, rF 1), (12, ri y704.1), (13, ri y704.2), (14, ri y705.1), (15, ri y705.2)], [(tsNode.leaves y600), (tsI4.leaves y701.1)], [], 137⟩
theorem law16_TileRooms_r10 : P59 1 C59.r.r.r.r.r.r.r.r.r (S59_7 rows y590 y593 y600 y701 y704) k = Option.bind (tile_Need y600 y593 (max (IntKind.wrap .i64 ((1 : Int) + (Int.tmod (IntKind.wrap .i64 rows.1) y701.1.1))) (IntKind.wrap .i64 ((1 : Int) + (Int.tmod (IntKind.wrap .i64 rows.2) y701.1.1))))) fun y705 : (Int × Int) => k (S59_8 y590 y593 y600 y701 y704 y705) := by kernel_rfl
abbrev S59_9 : St := ⟨[(1, rl tsI4 y593), (3, rF 0), (7, rb y590), (8, rF 1), (12, ri y704.1), (13, ri y704.2), (14, ri y705.1), (15, ri y705.2), (16, ri (ref02_Size (y701.1.1, y701.1.2.1, y701.1.2.2.1)))], [(tsNode.leaves y600), (tsI4.leaves y701.1)], [], 137⟩
theorem law16_TileRooms_f12 : P59 1 C59.r.r.r.r.r.r.r.r.r.r (S59_8 y590 y593 y600 y701 y704 y705) k = k (S59_9 y590 y593 y600 y701 y704 y705) := by kernel_rfl
abbrev S59_10 : St := ⟨[(1, rl tsI4 y593), (3, rF 0), (7, rb y590), (8, rF 1), (12, ri y704.1), (13, ri y704.2), (14, ri y705.1), (15, ri y705.2), (16, ri (ref02_Size (y701.1.1, y701.1.2.1, y701.1.2.2.1))), (17, ri 0)], [(tsNode.leaves y600), (tsI4.leaves y701.1)], [], 137⟩
theorem law16_TileRooms_f13 : P59 1 C59.r.r.r.r.r.r.r.r.r.r.r.l (S59_9 y590 y593 y600 y701 y704 y705) k = k (S59_10 y590 y593 y600 y701 y704 y705) := by kernel_rfl
abbrev S59_11 : St := ⟨[(1, rl tsI4 y593), (3, rF 0), (7, rb y590), (8, rF 1), (12, ri y704.1), (13, ri y704.2), (14, ri y705.1), (15, ri y705.2), (16, ri s716.1), (17, ri s716.2)], [(tsNode.leaves y600), (tsI4.leaves y701.1)], [], 137⟩
theorem law16_TileRooms_fzx1 : P59 1 C59.r.r.r.r.r.r.r.r.r.r.r.l.r.b.b.l (S59_11 y590 y593 y600 y701 y704 y705 s716) k = k ⟨[(1, rl tsI4 y593), (3, rF 0), (7, rb y590), (8, rF 1), (12, ri y704.1), (13, ri y704.2), (14, ri y705.1), (15, ri y705.2), (16, ri s716.1), (17, ri s716.2), (76, rb (decide (s716.2 < (y593.length : Int))))], [(tsNode.leaves y600), (tsI4.leaves y701.1)], [], 137⟩ := by kernel_rfl
def law16_TileRooms_r15_p : Option Int := (bif (decide ((0 : Int) ≤ s716.2)) then (bif (decide (s716.2 < (y593.length : Int))) then (some (IntKind.wrap .i64 (s716.1 + (ref02_Size ((gt y593 s716.2 dI4).1, (gt y593 s716.2 dI4).2.1, (gt y593 s716.2 dI4).2.2.1))))) else none) else none)
abbrev S59_12 : St := ⟨[(1, rl tsI4 y593), (3, rF 0), (7, rb y590), (8, rF 1), (12, ri y704.1), (13, ri y704.2), (14, ri y705.1), (15, ri y705.2), (16, ri y718), (17, ri s716.2)], [(tsNode.leaves y600), (tsI4.leaves y701.1)], [], 137⟩
theorem law16_TileRooms_r15 : R59 C59.r.r.r.r.r.r.r.r.r.r.r.l.r.b.b.r.l.b (S59_11 y590 y593 y600 y701 y704 y705 s716) q = Option.bind (law16_TileRooms_r15_p y593 s716) (fun y718 : Int => q .normal (S59_12 y590 y593 y600 y701 y704 y705 s716 y718)) := .trans (by kernel_rfl) (bif_b (bif_b some_b none_b) none_b)
theorem law16_TileRooms_r14 : R59 C59.r.r.r.r.r.r.r.r.r.r.r.l.r.b.b.r.r (S59_12 y590 y593 y600 y701 y704 y705 s716 y718) q = q .normal ⟨[(1, rl tsI4 y593), (3, rF 0), (7, rb y590), (8, rF 1), (12, ri y704.1), (13, ri y704.2), (14, ri y705.1), (15, ri y705.2), (16, ri y718), (17, ri (IntKind.wrap .i64 (s716.2 + 1)))], [(tsNode.leaves y600), (tsI4.leaves y701.1)], [], 137⟩ := by kernel_rfl
def law16_TileRooms_l13_p : Option ((Int × Int) ⊕ (Int × Int)) := (bif (decide (s716.2 < (y593.length : Int))) then (Option.bind (law16_TileRooms_r15_p y593 s716) (fun y718 : Int => (some (Sum.inl (y718, (IntKind.wrap .i64 (s716.2 + 1))))))) else (some (Sum.inr s716)))
abbrev S59_13 : St := ⟨[(1, rl tsI4 y593), (3, rF 0), (7, rb y590), (8, rF 1), (12, ri y704.1), (13, ri y704.2), (14, ri y705.1), (15, ri y705.2), (16, ri y719.1), (17, ri y719.2)], [(tsNode.leaves y600), (tsI4.leaves y701.1)], [], 137⟩
theorem law16_TileRooms_l13_b : R59 C59.r.r.r.r.r.r.r.r.r.r.r.l.r.b.b (S59_11 y590 y593 y600 y701 y704 y705 s716) (loopKont 2 q) = Option.bind (law16_TileRooms_l13_p y593 s716) (either (fun y : (Int × Int) => q .normal ⟨[(1, rl tsI4 y593), (3, rF 0), (7, rb y590), (8, rF 1), (12, ri y704.1), (13, ri y704.2), (14, ri y705.1), (15, ri y705.2), (16, ri y.1), (17, ri y.2)], [(tsNode.leaves y600), (tsI4.leaves y701.1)], [], 137⟩) (fun y719 : (Int × Int) => q (.exit 0) (S59_13 y590 y593 y600 y701 y704 y705 y719))) := by
  refine .trans ?_ (bif_b (bind_b fun y718 => e2_0) e2_1)
  refine .trans seq_push ?_
  refine (pre1 (law16_TileRooms_fzx1 y590 y593 y600 y701 y704 y705 s716 _)).trans ?_
  refine (cond_e (b := (decide (s716.2 < (y593.length : Int)))) (st' := (S59_11 y590 y593 y600 y701 y704 y705 s716)) ).trans (bif_g ?_ ?_)
  · refine (skip_eq).trans ?_
    refine (seqC_normal (st' := (S59_11 y590 y593 y600 y701 y704 y705 s716))).trans ?_
    refine .trans seq_push ?_
    refine (block_push (id := 1)).trans ?_
    refine (law16_TileRooms_r15 y590 y593 y600 y701 y704 y705 s716 _).trans (bind_g fun y718 => ?_)
    refine block_normal.trans ?_
    refine (seqC_normal (st' := (S59_12 y590 y593 y600 y701 y704 y705 s716 y718))).trans ?_
    refine (law16_TileRooms_r14 y590 y593 y600 y701 y704 y705 s716 y718 _).trans ?_
    kernel_rfl
  · refine ((exit_eq (j := 0))).trans ?_
    refine seqC_exit.trans ?_
    kernel_rfl
theorem law16_TileRooms_l13 : R59 C59.r.r.r.r.r.r.r.r.r.r.r.l.r.b (S59_10 y590 y593 y600 y701 y704 y705) q = Option.bind (iterN (law16_TileRooms_l13_p y593) LL ((ref02_Size (y701.1.1, y701.1.2.1, y701.1.2.2.1)), (0 : Int))) (fun y719 : (Int × Int) => q (.exit 0) (S59_13 y590 y593 y600 y701 y704 y705 y719)) :=
  Eq.trans (by kernel_rfl) (loop_iter1 (S := fun s716 : (Int × Int) => (S59_11 y590 y593 y600 y701 y704 y705 s716)) (Y1 := fun y719 : (Int × Int) => ((.exit 0), (S59_13 y590 y593 y600 y701 y704 y705 y719))) (fun s q => law16_TileRooms_l13_b y590 y593 y600 y701 y704 y705 s q) (fun z => rfl) LL ((ref02_Size (y701.1.1, y701.1.2.1, y701.1.2.2.1)), (0 : Int)))
abbrev S59_14 : St := ⟨[(1, rl tsI4 y593), (3, rF 0), (7, rb y590), (8, rF 1), (12, ri y704.1), (13, ri y704.2), (14, ri y705.1), (15, ri y705.2), (16, ri y719.1)], [(tsNode.leaves y600), (tsI4.leaves y701.1)], [], 137⟩
abbrev S59_15 : St := ⟨[(3, rF 0), (7, rb y590), (8, rF 1), (12, ri y704.1), (13, ri y704.2), (14, ri y705.1), (15, ri y705.2), (16, ri y719.1), (18, ri y720.1), (19, ri y720.2)], [(tsNode.leaves y600), (tsI4.leaves y701.1)], [], 137⟩
theorem law16_TileRooms_r16 : P59 1 C59.r.r.r.r.r.r.r.r.r.r.r.r (S59_14 y590 y593 y600 y701 y704 y705 y719) k = Option.bind (tile_Best y600 y593) fun y720 : (Int × Int) => k (S59_15 y590 y600 y701 y704 y705 y719 y720) := by kernel_rfl
abbrev S59_16 : St := ⟨[(7, rb y590), (8, rF 1), (12, ri y704.1), (13, ri y704.2), (14, ri y705.1), (15, ri y705.2), (16, ri y719.1), (18, ri y720.1), (19, ri y720.2), (20, rb y738)], [[], (tsI4.leaves y701.1)], [], 137⟩
theorem law16_TileRooms_r17 : P59 1 C59.r.r.r.r.r.r.r.r.r.r.r.r.r (S59_15 y590 y600 y701 y704 y705 y719 y720) k = Option.bind (ref15_Npu y600.1) fun y738 : Bool => k (S59_16 y590 y701 y704 y705 y719 y720 y738) := by kernel_rfl
def law16_TileRooms_r18_q (K : Bool → β) : β := (bif (decide ((IntKind.wrap .i64 ((2 : Int) * y719.1)) ≤ 1024)) then (K y738) else (K false))
def law16_TileRooms_r18_p : Bool := law16_TileRooms_r18_q y719 y738 (fun y => y)
theorem law16_TileRooms_r18_n (K : Bool → β) : law16_TileRooms_r18_q y719 y738 K = K (law16_TileRooms_r18_p y719 y738) := (bif_k K rfl rfl)
abbrev S59_17 : St := ⟨[(7, rb y590), (8, rF 1), (12, ri y704.1), (13, ri y704.2), (14, ri y705.1), (15, ri y705.2), (16, ri y719.1), (18, ri y720.1), (19, ri y720.2), (21, rb (law16_TileRooms_r18_p y719 y738))], [[], (tsI4.leaves y701.1)], [], 137⟩
theorem law16_TileRooms_r18 : P59 1 C59.r.r.r.r.r.r.r.r.r.r.r.r.r.r (S59_16 y590 y701 y704 y705 y719 y720 y738) k = k (S59_17 y590 y701 y704 y705 y719 y720 y738) := Eq.trans (by kernel_rfl) (law16_TileRooms_r18_n y719 y738 (fun y739 : Bool => k ⟨[(7, rb y590), (8, rF 1), (12, ri y704.1), (13, ri y704.2), (14, ri y705.1), (15, ri y705.2), (16, ri y719.1), (18, ri y720.1), (19, ri y720.2), (21, rb y739)], [[], (tsI4.leaves y701.1)], [], 137⟩))
def law16_TileRooms_r19_q (K : Bool → β) : β := (bif y590 then (bif (y704.2 == 0) then (bif (y705.2 == 0) then (bif (y720.2 == 0) then (bif (decide (y704.1 ≤ y705.1)) then (bif (decide (y705.1 ≤ (IntKind.wrap .i64 ((2 : Int) * y719.1)))) then (bif (!(law16_TileRooms_r18_p y719 y738)) then (K true) else (K (y720.1 == y701.1.1))) else (K false)) else (K false)) else (K false)) else (K false)) else (K false)) else (K false))
def law16_TileRooms_r19_p : Bool := law16_TileRooms_r19_q y590 y701 y704 y705 y719 y720 y738 (fun y => y)
theorem law16_TileRooms_r19_n (K : Bool → β) : law16_TileRooms_r19_q y590 y701 y704 y705 y719 y720 y738 K = K (law16_TileRooms_r19_p y590 y701 y704 y705 y719 y720 y738) := (bif_k K (bif_k K (bif_k K (bif_k K (bif_k K (bif_k K (bif_k K rfl rfl) rfl) rfl) rfl) rfl) rfl) rfl)
theorem law16_TileRooms_r19 : P59 1 C59.r.r.r.r.r.r.r.r.r.r.r.r.r.r.r (S59_17 y590 y701 y704 y705 y719 y720 y738) k = k ⟨[(6, rb (law16_TileRooms_r19_p y590 y701 y704 y705 y719 y720 y738))], [[], []], [], 137⟩ := Eq.trans (by kernel_rfl) (law16_TileRooms_r19_n y590 y701 y704 y705 y719 y720 y738 (fun y740 : Bool => k ⟨[(6, rb y740)], [[], []], [], 137⟩))
/-- quilt/quiltlaw16.TileRooms -/
def law16_TileRooms : Option Bool := (Option.bind law16_shown (fun y590 : Bool => (Option.bind (law16_some in_) (fun y593 : (List I4) => (Option.bind (law16_few n_) (fun y600 : Node => (Option.bind (ref03_Value y600 y593) (fun y701 : (I4 × Int) => (bif (y701.2 != 0) then (some y590) else (Option.bind (law16_TileRooms_r7_p y701) (fun y702 : Unit => (Option.bind (law16_TileRooms_r8_p y701) (fun y703 : Unit => (Option.bind (tile_Need y600 y593 (min (IntKind.wrap .i64 ((1 : Int) + (Int.tmod (IntKind.wrap .i64 rows.1) y701.1.1))) (IntKind.wrap .i64 ((1 : Int) + (Int.tmod (IntKind.wrap .i64 rows.2) y701.1.1))))) (fun y704 : (Int × Int) => (Option.bind (tile_Need y600 y593 (max (IntKind.wrap .i64 ((1 : Int) + (Int.tmod (IntKind.wrap .i64 rows.1) y701.1.1))) (IntKind.wrap .i64 ((1 : Int) + (Int.tmod (IntKind.wrap .i64 rows.2) y701.1.1))))) (fun y705 : (Int × Int) => (Option.bind (iterN (law16_TileRooms_l13_p y593) LL ((ref02_Size (y701.1.1, y701.1.2.1, y701.1.2.2.1)), (0 : Int))) (fun y719 : (Int × Int) => (Option.bind (tile_Best y600 y593) (fun y720 : (Int × Int) => (Option.bind (ref15_Npu y600.1) (fun y738 : Bool => (some (law16_TileRooms_r19_p y590 y701 y704 y705 y719 y720 y738)))))))))))))))))))))))))
theorem law16_TileRooms_is : stepS E cp59 noE 3 [rA tsNode n_, rl tsI4 in_, rA tsA2 rows] = Option.bind (law16_TileRooms n_ in_ rows) (fun y : Bool => some (rb y : R)) := by
  refine .trans ?_ (bind_b fun y590 => (bind_b fun y593 => (bind_b fun y600 => (bind_b fun y701 => (bif_b some_b (bind_b fun y702 => (bind_b fun y703 => (bind_b fun y704 => (bind_b fun y705 => (bind_b fun y719 => (bind_b fun y720 => (bind_b fun y738 => some_b))))))))))))
  refine (stepG_is (nt := 137) (regs := [(0, rA tsNode n_), (1, rl tsI4 in_), (2, rA tsA2 rows)])).trans ?_
  refine (pre2 (law16_TileRooms_r1 n_ in_ rows _)).trans (bind_g fun y590 => ?_)
  refine (pre1 (law16_TileRooms_r2 n_ in_ rows y590 _)).trans (bind_g fun y593 => ?_)
  refine (pre1 (law16_TileRooms_r3 n_ rows y590 y593 _)).trans (bind_g fun y600 => ?_)
  refine (pre1 (law16_TileRooms_r4 rows y590 y593 y600 _)).trans (bind_g fun y701 => ?_)
  refine .trans seq_push ?_
  refine (pre1 (law16_TileRooms_f1000006 rows y590 y593 y600 y701 _)).trans ?_
  refine (cond_e (b := (y701.2 != 0)) (st' := (S59_4 rows y590 y593 y600 y701)) ).trans (bif_g ?_ ?_)
  · refine (pre1 (law16_TileRooms_fz rows y590 y593 y600 y701 _)).trans ?_
    refine (ret_eq).trans ?_
    refine seqC_ret.trans ?_
    kernel_rfl
  · refine (skip_eq).trans ?_
    refine (seqC_normal (st' := (S59_4 rows y590 y593 y600 y701))).trans ?_
    refine (pre1 (law16_TileRooms_r7 rows y590 y593 y600 y701 _)).trans (bind_g fun y702 => ?_)
    refine (pre1 (law16_TileRooms_r8 rows y590 y593 y600 y701 _)).trans (bind_g fun y703 => ?_)
    refine (pre1 (law16_TileRooms_r9 rows y590 y593 y600 y701 _)).trans (bind_g fun y704 => ?_)
    refine (pre1 (law16_TileRooms_r10 rows y590 y593 y600 y701 y704 _)).trans (bind_g fun y705 => ?_)
    refine (pre1 (law16_TileRooms_f12 y590 y593 y600 y701 y704 y705 _)).trans ?_
    refine .trans seq_push ?_
    refine (pre1 (law16_TileRooms_f13 y590 y593 y600 y701 y704 y705 _)).trans ?_
    refine (block_push (id := 0)).trans ?_
    refine (law16_TileRooms_l13 y590 y593 y600 y701 y704 y705 _).trans (bind_g fun y719 => ?_)
    refine block_same.trans ?_
    refine (seqC_normal (st' := (S59_14 y590 y593 y600 y701 y704 y705 y719))).trans ?_
    refine (pre1 (law16_TileRooms_r16 y590 y593 y600 y701 y704 y705 y719 _)).trans (bind_g fun y720 => ?_)
    refine (pre1 (law16_TileRooms_r17 y590 y600 y701 y704 y705 y719 y720 _)).trans (bind_g fun y738 => ?_)
    refine (pre1 (law16_TileRooms_r18 y590 y701 y704 y705 y719 y720 y738 _)).trans ?_
    refine (pre1 (law16_TileRooms_r19 y590 y701 y704 y705 y719 y720 y738 _)).trans ?_
    refine (ret_eq).trans ?_
    kernel_rfl
noncomputable def cp60 : CallP := withC cp59 3 [(.agg tsNode), (pL tsI4), (.agg tsA2)] (.one pB) (fun y : Bool => y) (fun x => law16_TileRooms x.1 x.2.1 x.2.2.1)
theorem cp60_ok : PureOK E cp60 := conS eok cp59_ok noE_ok fun x => Eq.mp (by kernel_rfl) (law16_TileRooms_is x.1 x.2.1 x.2.2.1)
theorem law16_TileRooms_walk (ht : law16_TileRooms n_ in_ rows = some true) (w : World) (vs : List Value) (hrd : ∀ γ : Gh, Free γ → rdRs w γ [argR true tsNode n_, argR false (.one (.sl tsI4)) in_, argR true tsA2 rows] vs) : Calls E.P 3 vs.toArray w fun e w' => e = .returned (.bool true) ∧ Below w.heap.size w w' :=
  walk_true (E := E) (stepS_ok eok cp59_ok noE_ok) (show stepS E cp59 noE 3 [rA tsNode n_, rl tsI4 in_, rA tsA2 rows] = some (.one (.g .bool true)) from by rw [law16_TileRooms_is, ht]; rfl) w fun γ hγ => Eq.mp (by kernel_rfl) (hrd γ hγ)
end
section
variable {α β : Type} (h_ : Int) (rows : Int) (s756 : ((List I2) × Int)) (y759 : ((List I2) × Int)) (k : St → Option α) (q : Kont α)
noncomputable abbrev C60 := codeOf E.P 31
noncomputable abbrev P60 := @preK α E 31 cp60 noE
noncomputable abbrev R60 := @runCode α E 31 cp60 noE
abbrev S60_0 : St := ⟨[(0, ri h_), (1, ri rows), (5, .one (.ow tsI2 [] (.v 5)))], [], [], 40⟩
theorem ref15_Tiles_f2 : P60 2 C60 ⟨[(0, ri h_), (1, ri rows)], [], [], 40⟩ k = k (S60_0 h_ rows) := by kernel_rfl
def ref15_Tiles_r2_q (K : Bool → β) : β := (bif (decide (h_ < 1)) then (K true) else (bif (decide (h_ > 16)) then (K true) else (bif (decide (rows < 1)) then (K true) else (K (decide (rows > 16))))))
def ref15_Tiles_r2_p : Bool := ref15_Tiles_r2_q h_ rows (fun y => y)
theorem ref15_Tiles_r2_n (K : Bool → β) : ref15_Tiles_r2_q h_ rows K = K (ref15_Tiles_r2_p h_ rows) := (bif_k K rfl (bif_k K rfl (bif_k K rfl rfl)))
theorem ref15_Tiles_r2 : P60 1 C60.r.r.l (S60_0 h_ rows) k = k ⟨[(0, ri h_), (1, ri rows), (5, .one (.ow tsI2 [] (.v 5))), (21, rb (ref15_Tiles_r2_p h_ rows))], [], [], 40⟩ := Eq.trans (by kernel_rfl) (ref15_Tiles_r2_n h_ rows (fun y749 : Bool => k ⟨[(0, ri h_), (1, ri rows), (5, .one (.ow tsI2 [] (.v 5))), (21, rb y749)], [], [], 40⟩))
theorem ref15_Tiles_fz : P60 1 C60.r.r.l.r.t (S60_0 h_ rows) k = k ⟨[(4, .one (.ow tsI2 [] (.v 5)))], [], [], 40⟩ := by kernel_rfl
abbrev S60_1 : St := ⟨[(0, ri h_), (1, ri rows), (5, .one (.ow tsI2 [] (.v 5))), (6, ri 0)], [], [], 40⟩
theorem ref15_Tiles_f5 : P60 1 C60.r.r.r.l (S60_0 h_ rows) k = k (S60_1 h_ rows) := by kernel_rfl
abbrev S60_2 : St := ⟨[(0, ri h_), (1, ri rows), (5, rO tsI2 s756.1 5), (6, ri s756.2)], [], [], 40⟩
theorem ref15_Tiles_fzx1 : P60 1 C60.r.r.r.l.r.b.b.l (S60_2 h_ rows s756) k = k ⟨[(0, ri h_), (1, ri rows), (5, rO tsI2 s756.1 5), (6, ri s756.2), (25, rb (decide (s756.2 < h_)))], [], [], 40⟩ := by kernel_rfl
def ref15_Tiles_r7_p : Option Unit := (bif (decide (s756.1.length + ([(s756.2, (min rows (IntKind.wrap .i64 (h_ - s756.2))))] : List I2).length ≤ maxL)) then (some ()) else none)
abbrev S60_3 : St := ⟨[(0, ri h_), (1, ri rows), (5, .one (.ow tsI2 (s756.1 ++ [(s756.2, (min rows (IntKind.wrap .i64 (h_ - s756.2))))]) (.v 5))), (6, ri s756.2)], [], [], 40⟩
theorem ref15_Tiles_r7 : R60 C60.r.r.r.l.r.b.b.r.l.b (S60_2 h_ rows s756) q = Option.bind (ref15_Tiles_r7_p h_ rows s756) (fun y758 : Unit => q .normal (S60_3 h_ rows s756)) := .trans (by kernel_rfl) (bif_b some_b none_b)
theorem ref15_Tiles_r6 : R60 C60.r.r.r.l.r.b.b.r.r (S60_3 h_ rows s756) q = q .normal ⟨[(0, ri h_), (1, ri rows), (5, .one (.ow tsI2 (s756.1 ++ [(s756.2, (min rows (IntKind.wrap .i64 (h_ - s756.2))))]) (.v 5))), (6, ri (IntKind.wrap .i64 (s756.2 + rows)))], [], [], 40⟩ := by kernel_rfl
def ref15_Tiles_l5_p : Option (((List I2) × Int) ⊕ ((List I2) × Int)) := (bif (decide (s756.2 < h_)) then (Option.bind (ref15_Tiles_r7_p h_ rows s756) (fun y758 : Unit => (some (Sum.inl ((s756.1 ++ [(s756.2, (min rows (IntKind.wrap .i64 (h_ - s756.2))))]), (IntKind.wrap .i64 (s756.2 + rows))))))) else (some (Sum.inr s756)))
abbrev S60_4 : St := ⟨[(0, ri h_), (1, ri rows), (5, rO tsI2 y759.1 5), (6, ri y759.2)], [], [], 40⟩
theorem ref15_Tiles_l5_b : R60 C60.r.r.r.l.r.b.b (S60_2 h_ rows s756) (loopKont 0 q) = Option.bind (ref15_Tiles_l5_p h_ rows s756) (either (fun y : ((List I2) × Int) => q .normal ⟨[(0, ri h_), (1, ri rows), (5, rO tsI2 y.1 5), (6, ri y.2)], [], [], 40⟩) (fun y759 : ((List I2) × Int) => q (.exit 0) (S60_4 h_ rows y759))) := by
  refine .trans ?_ (bif_b (bind_b fun y758 => e2_0) e2_1)
  refine .trans seq_push ?_
  refine (pre1 (ref15_Tiles_fzx1 h_ rows s756 _)).trans ?_
  refine (cond_e (b := (decide (s756.2 < h_))) (st' := (S60_2 h_ rows s756)) ).trans (bif_g ?_ ?_)
  · refine (skip_eq).trans ?_
    refine (seqC_normal (st' := (S60_2 h_ rows s756))).trans ?_
    refine .trans seq_push ?_
    refine (block_push (id := 1)).trans ?_
    refine (ref15_Tiles_r7 h_ rows s756 _).trans (bind_g fun y758 => ?_)
    refine block_normal.trans ?_
    refine (seqC_normal (st' := (S60_3 h_ rows s756))).trans ?_
    refine (ref15_Tiles_r6 h_ rows s756 _).trans ?_
    kernel_rfl
  · refine ((exit_eq (j := 0))).trans ?_
    refine seqC_exit.trans ?_
    kernel_rfl
theorem ref15_Tiles_l5 : R60 C60.r.r.r.l.r.b (S60_1 h_ rows) q = Option.bind (iterN (ref15_Tiles_l5_p h_ rows) LL ([], (0 : Int))) (fun y759 : ((List I2) × Int) => q (.exit 0) (S60_4 h_ rows y759)) :=
  Eq.trans (by kernel_rfl) (loop_iter1 (S := fun s756 : ((List I2) × Int) => (S60_2 h_ rows s756)) (Y1 := fun y759 : ((List I2) × Int) => ((.exit 0), (S60_4 h_ rows y759))) (fun s q => ref15_Tiles_l5_b h_ rows s q) (fun z => rfl) LL ([], (0 : Int)))
theorem ref15_Tiles_fzx2 : P60 1 C60.r.r.r.r ⟨[(5, rO tsI2 y759.1 5)], [], [], 40⟩ k = k ⟨[(4, rO tsI2 y759.1 5)], [], [], 40⟩ := by kernel_rfl
/-- quilt/quiltref15.Tiles -/
def ref15_Tiles : Option (List I2) := (bif (ref15_Tiles_r2_p h_ rows) then (some []) else (Option.bind (iterN (ref15_Tiles_l5_p h_ rows) LL ([], (0 : Int))) (fun y759 : ((List I2) × Int) => (some y759.1))))
theorem ref15_Tiles_is : stepO E cp60 noE 31 [ri h_, ri rows] = Option.bind (ref15_Tiles h_ rows) (fun y : (List I2) => some (.one (.ow tsI2 y (.s 0)) : R)) := by
  refine .trans ?_ (bif_b some_b (bind_b fun y759 => some_b))
  refine (stepG_is (nt := 40) (regs := [(0, ri h_), (1, ri rows)])).trans ?_
  refine (pre2 (ref15_Tiles_f2 h_ rows _)).trans ?_
  refine .trans seq_push ?_
  refine (pre1 (ref15_Tiles_r2 h_ rows _)).trans ?_
  refine (cond_e (b := (ref15_Tiles_r2_p h_ rows)) (st' := (S60_0 h_ rows)) ).trans (bif_g ?_ ?_)
  · refine (pre1 (ref15_Tiles_fz h_ rows _)).trans ?_
    refine (ret_eq).trans ?_
    refine seqC_ret.trans ?_
    kernel_rfl
  · refine (skip_eq).trans ?_
    refine (seqC_normal (st' := (S60_0 h_ rows))).trans ?_
    refine .trans seq_push ?_
    refine (pre1 (ref15_Tiles_f5 h_ rows _)).trans ?_
    refine (block_push (id := 0)).trans ?_
    refine (ref15_Tiles_l5 h_ rows _).trans (bind_g fun y759 => ?_)
    refine block_same.trans ?_
    refine (seqC_normal (st' := ⟨[(5, rO tsI2 y759.1 5)], [], [], 40⟩)).trans ?_
    refine (pre1 (ref15_Tiles_fzx2 y759 _)).trans ?_
    refine (ret_eq).trans ?_
    kernel_rfl
noncomputable def cp61 : CallP := withC cp60 31 [pI, pI] (.one (.one (.ow tsI2))) (fun y : (List I2) => y) (fun x => ref15_Tiles x.1 x.2.1)
theorem cp61_ok : PureOK E cp61 := conO eok cp60_ok noE_ok fun x => Eq.mp (by kernel_rfl) (ref15_Tiles_is x.1 x.2.1)
end
section
variable {α β : Type} (first : Int) (rows : Int) (k_ : Int) (stride : Int) (pad : Int) (size : Int) (y768 : Int) (s859 : (Int × Int × Int)) (s880 : (Int × Int × Int)) (y887 : (Int × Int × Int)) (y888 : (Int × Int × Int)) (k : St → Option α) (q : Kont α)
noncomputable abbrev C61 := codeOf E.P 71
noncomputable abbrev P61 := @preK α E 71 cp61 noE
noncomputable abbrev R61 := @runCode α E 71 cp61 noE
noncomputable abbrev Q61 := @seqC α E 71 cp61 noE
theorem ref02_Reach_r1 : P61 2 C61 ⟨[(0, ri first), (1, ri rows), (2, ri k_), (3, ri stride), (4, ri pad), (5, ri size)], [], [], 82⟩ k = Option.bind (ref02_Out size k_ stride pad) fun y768 : Int => k ⟨[(0, ri first), (1, ri rows), (2, ri k_), (3, ri stride), (4, ri pad), (5, ri size), (14, ri y768)], [], [], 82⟩ := by kernel_rfl
abbrev S61_0 : St := ⟨[(0, ri first), (1, ri rows), (2, ri k_), (3, ri stride), (4, ri pad), (5, ri size), (14, ri y768), (15, ri 0), (16, ri 0)], [], [], 82⟩
theorem ref02_Reach_f4 : P61 2 C61.r.r ⟨[(0, ri first), (1, ri rows), (2, ri k_), (3, ri stride), (4, ri pad), (5, ri size), (14, ri y768)], [], [], 82⟩ k = k (S61_0 first rows k_ stride pad size y768) := by kernel_rfl
def ref02_Reach_r4_q (K : Bool → β) : β := (bif (decide (first < 0)) then (K true) else (bif (decide (rows < 1)) then (K true) else (bif (decide (first > y768)) then (K true) else (K (decide (rows > (IntKind.wrap .i64 (y768 - first))))))))
def ref02_Reach_r4_p : Bool := ref02_Reach_r4_q first rows y768 (fun y => y)
theorem ref02_Reach_r4_n (K : Bool → β) : ref02_Reach_r4_q first rows y768 K = K (ref02_Reach_r4_p first rows y768) := (bif_k K rfl (bif_k K rfl (bif_k K rfl rfl)))
theorem ref02_Reach_r4 : P61 1 C61.r.r.r.r.l (S61_0 first rows k_ stride pad size y768) k = k ⟨[(0, ri first), (1, ri rows), (2, ri k_), (3, ri stride), (4, ri pad), (5, ri size), (15, ri 0), (16, ri 0), (42, rb (ref02_Reach_r4_p first rows y768))], [], [], 82⟩ := Eq.trans (by kernel_rfl) (ref02_Reach_r4_n first rows y768 (fun y770 : Bool => k ⟨[(0, ri first), (1, ri rows), (2, ri k_), (3, ri stride), (4, ri pad), (5, ri size), (15, ri 0), (16, ri 0), (42, rb y770)], [], [], 82⟩))
abbrev S61_1 : St := ⟨[(0, ri first), (1, ri rows), (2, ri k_), (3, ri stride), (4, ri pad), (5, ri size), (15, ri 0), (16, ri 0)], [], [], 82⟩
theorem ref02_Reach_fz : P61 1 C61.r.r.r.r.l.r.t (S61_1 first rows k_ stride pad size) k = k ⟨[(12, ri 0), (13, ri 0)], [], [], 82⟩ := by kernel_rfl
abbrev S61_2 : St := ⟨[(0, ri first), (1, ri rows), (2, ri k_), (3, ri stride), (4, ri pad), (5, ri size), (15, ri 0), (16, ri 0), (17, ri first)], [], [], 82⟩
theorem ref02_Reach_f7 : P61 1 C61.r.r.r.r.r.l (S61_1 first rows k_ stride pad size) k = k (S61_2 first rows k_ stride pad size) := by kernel_rfl
abbrev S61_3 : St := ⟨[(0, ri first), (1, ri rows), (2, ri k_), (3, ri stride), (4, ri pad), (5, ri size), (15, ri s859.1), (16, ri s859.2.1), (17, ri s859.2.2)], [], [], 82⟩
theorem ref02_Reach_fzx1 : P61 1 C61.r.r.r.r.r.l.r.b.b.l (S61_3 first rows k_ stride pad size s859) k = k ⟨[(0, ri first), (1, ri rows), (2, ri k_), (3, ri stride), (4, ri pad), (5, ri size), (15, ri s859.1), (16, ri s859.2.1), (17, ri s859.2.2), (48, rb (decide (s859.2.2 < (IntKind.wrap .i64 (first + rows)))))], [], [], 82⟩ := by kernel_rfl
abbrev S61_4 : St := ⟨[(0, ri first), (1, ri rows), (2, ri k_), (3, ri stride), (4, ri pad), (5, ri size), (15, ri s859.1), (16, ri s859.2.1), (17, ri s859.2.2), (18, ri 0)], [], [], 82⟩
theorem ref02_Reach_f10 : P61 1 C61.r.r.r.r.r.l.r.b.b.r.l.b (S61_3 first rows k_ stride pad size s859) k = k (S61_4 first rows k_ stride pad size s859) := by kernel_rfl
abbrev S61_5 : St := ⟨[(0, ri first), (1, ri rows), (2, ri k_), (3, ri stride), (4, ri pad), (5, ri size), (15, ri s880.1), (16, ri s880.2.1), (17, ri s859.2.2), (18, ri s880.2.2)], [], [], 82⟩
theorem ref02_Reach_fzx2 : P61 1 C61.r.r.r.r.r.l.r.b.b.r.l.b.r.b.b.l (S61_5 first rows k_ stride pad size s859 s880) k = k ⟨[(0, ri first), (1, ri rows), (2, ri k_), (3, ri stride), (4, ri pad), (5, ri size), (15, ri s880.1), (16, ri s880.2.1), (17, ri s859.2.2), (18, ri s880.2.2), (53, rb (decide (s880.2.2 < k_)))], [], [], 82⟩ := by kernel_rfl
def ref02_Reach_r12_q (K : Int → β) : β := (K (IntKind.wrap .i64 ((IntKind.wrap .i64 ((IntKind.wrap .i64 (s859.2.2 * stride)) - pad)) + s880.2.2)))
def ref02_Reach_r12_p : Int := ref02_Reach_r12_q stride pad s859 s880 (fun y => y)
theorem ref02_Reach_r12_n (K : Int → β) : ref02_Reach_r12_q stride pad s859 s880 K = K (ref02_Reach_r12_p stride pad s859 s880) := rfl
abbrev S61_6 : St := ⟨[(0, ri first), (1, ri rows), (2, ri k_), (3, ri stride), (4, ri pad), (5, ri size), (15, ri s880.1), (16, ri s880.2.1), (17, ri s859.2.2), (18, ri s880.2.2), (19, ri (ref02_Reach_r12_p stride pad s859 s880))], [], [], 82⟩
theorem ref02_Reach_r12 : P61 1 C61.r.r.r.r.r.l.r.b.b.r.l.b.r.b.b.r.l.b (S61_5 first rows k_ stride pad size s859 s880) k = k (S61_6 first rows k_ stride pad size s859 s880) := Eq.trans (by kernel_rfl) (ref02_Reach_r12_n stride pad s859 s880 (fun y881 : Int => k ⟨[(0, ri first), (1, ri rows), (2, ri k_), (3, ri stride), (4, ri pad), (5, ri size), (15, ri s880.1), (16, ri s880.2.1), (17, ri s859.2.2), (18, ri s880.2.2), (19, ri y881)], [], [], 82⟩))
def ref02_Reach_r13_q (K : Bool → β) : β := (bif (decide ((ref02_Reach_r12_p stride pad s859 s880) < 0)) then (K true) else (K (decide ((ref02_Reach_r12_p stride pad s859 s880) ≥ size))))
def ref02_Reach_r13_p : Bool := ref02_Reach_r13_q stride pad size s859 s880 (fun y => y)
theorem ref02_Reach_r13_n (K : Bool → β) : ref02_Reach_r13_q stride pad size s859 s880 K = K (ref02_Reach_r13_p stride pad size s859 s880) := (bif_k K rfl rfl)
theorem ref02_Reach_r13 : P61 1 C61.r.r.r.r.r.l.r.b.b.r.l.b.r.b.b.r.l.b.r.l (S61_6 first rows k_ stride pad size s859 s880) k = k ⟨[(0, ri first), (1, ri rows), (2, ri k_), (3, ri stride), (4, ri pad), (5, ri size), (15, ri s880.1), (16, ri s880.2.1), (17, ri s859.2.2), (18, ri s880.2.2), (19, ri (ref02_Reach_r12_p stride pad s859 s880)), (69, rb (ref02_Reach_r13_p stride pad size s859 s880))], [], [], 82⟩ := Eq.trans (by kernel_rfl) (ref02_Reach_r13_n stride pad size s859 s880 (fun y883 : Bool => k ⟨[(0, ri first), (1, ri rows), (2, ri k_), (3, ri stride), (4, ri pad), (5, ri size), (15, ri s880.1), (16, ri s880.2.1), (17, ri s859.2.2), (18, ri s880.2.2), (19, ri (ref02_Reach_r12_p stride pad s859 s880)), (69, rb y883)], [], [], 82⟩))
theorem ref02_Reach_f1000015 : P61 1 C61.r.r.r.r.r.l.r.b.b.r.l.b.r.b.b.r.l.b.r.r.l (S61_6 first rows k_ stride pad size s859 s880) k = k ⟨[(0, ri first), (1, ri rows), (2, ri k_), (3, ri stride), (4, ri pad), (5, ri size), (15, ri s880.1), (16, ri s880.2.1), (17, ri s859.2.2), (18, ri s880.2.2), (19, ri (ref02_Reach_r12_p stride pad s859 s880)), (71, rb (s880.2.1 == 0))], [], [], 82⟩ := by kernel_rfl
abbrev S61_7 : St := ⟨[(0, ri first), (1, ri rows), (2, ri k_), (3, ri stride), (4, ri pad), (5, ri size), (15, ri (ref02_Reach_r12_p stride pad s859 s880)), (16, ri s880.2.1), (17, ri s859.2.2), (18, ri s880.2.2), (19, ri (ref02_Reach_r12_p stride pad s859 s880))], [], [], 82⟩
theorem ref02_Reach_r15 : R61 C61.r.r.r.r.r.l.r.b.b.r.l.b.r.b.b.r.l.b.r.r.l.r.t (S61_6 first rows k_ stride pad size s859 s880) q = q .normal (S61_7 first rows k_ stride pad size s859 s880) := by kernel_rfl
def ref02_Reach_j14_q (K : Int → β) : β := (bif (s880.2.1 == 0) then (K (ref02_Reach_r12_p stride pad s859 s880)) else (K s880.1))
def ref02_Reach_j14_p : Int := ref02_Reach_j14_q stride pad s859 s880 (fun y => y)
theorem ref02_Reach_j14_n (K : Int → β) : ref02_Reach_j14_q stride pad s859 s880 K = K (ref02_Reach_j14_p stride pad s859 s880) := (bif_k K rfl rfl)
abbrev S61_8 : St := ⟨[(0, ri first), (1, ri rows), (2, ri k_), (3, ri stride), (4, ri pad), (5, ri size), (15, ri (ref02_Reach_j14_p stride pad s859 s880)), (16, ri s880.2.1), (17, ri s859.2.2), (18, ri s880.2.2), (19, ri (ref02_Reach_r12_p stride pad s859 s880))], [], [], 82⟩
theorem ref02_Reach_j14 : R61 C61.r.r.r.r.r.l.r.b.b.r.l.b.r.b.b.r.l.b.r.r.l (S61_6 first rows k_ stride pad size s859 s880) (Q61 C61.r.r.r.r.r.l.r.b.b.r.l.b.r.b.b.r.l.b.r.r.r q) = R61 C61.r.r.r.r.r.l.r.b.b.r.l.b.r.b.b.r.l.b.r.r.r (S61_8 first rows k_ stride pad size s859 s880) q := by
  refine Eq.trans ?_ (ref02_Reach_j14_n stride pad s859 s880 (fun y884 : Int => R61 C61.r.r.r.r.r.l.r.b.b.r.l.b.r.b.b.r.l.b.r.r.r ⟨[(0, ri first), (1, ri rows), (2, ri k_), (3, ri stride), (4, ri pad), (5, ri size), (15, ri y884), (16, ri s880.2.1), (17, ri s859.2.2), (18, ri s880.2.2), (19, ri (ref02_Reach_r12_p stride pad s859 s880))], [], [], 82⟩ q))
  unfold ref02_Reach_j14_q
  refine (pre1 (ref02_Reach_f1000015 first rows k_ stride pad size s859 s880 _)).trans ?_
  refine (cond_e (b := (s880.2.1 == 0)) (st' := (S61_6 first rows k_ stride pad size s859 s880)) ).trans (bif_g ?_ ?_)
  · refine (ref02_Reach_r15 first rows k_ stride pad size s859 s880 _).trans ?_
    refine (seqC_normal (st' := (S61_7 first rows k_ stride pad size s859 s880))).trans ?_
    kernel_rfl
  · refine (skip_eq).trans ?_
    refine (seqC_normal (st' := (S61_6 first rows k_ stride pad size s859 s880))).trans ?_
    kernel_rfl
abbrev S61_9 : St := ⟨[(0, ri first), (1, ri rows), (2, ri k_), (3, ri stride), (4, ri pad), (5, ri size), (15, ri (min (ref02_Reach_j14_p stride pad s859 s880) (ref02_Reach_r12_p stride pad s859 s880))), (16, ri s880.2.1), (17, ri s859.2.2), (18, ri s880.2.2), (19, ri (ref02_Reach_r12_p stride pad s859 s880))], [], [], 82⟩
theorem ref02_Reach_f17 : P61 1 C61.r.r.r.r.r.l.r.b.b.r.l.b.r.b.b.r.l.b.r.r.r (S61_8 first rows k_ stride pad size s859 s880) k = k (S61_9 first rows k_ stride pad size s859 s880) := by kernel_rfl
def ref02_Reach_r17_q (K : Int → β) : β := (K (max s880.2.1 (IntKind.wrap .i64 ((ref02_Reach_r12_p stride pad s859 s880) + 1))))
def ref02_Reach_r17_p : Int := ref02_Reach_r17_q stride pad s859 s880 (fun y => y)
theorem ref02_Reach_r17_n (K : Int → β) : ref02_Reach_r17_q stride pad s859 s880 K = K (ref02_Reach_r17_p stride pad s859 s880) := rfl
abbrev S61_10 : St := ⟨[(0, ri first), (1, ri rows), (2, ri k_), (3, ri stride), (4, ri pad), (5, ri size), (15, ri (min (ref02_Reach_j14_p stride pad s859 s880) (ref02_Reach_r12_p stride pad s859 s880))), (16, ri (ref02_Reach_r17_p stride pad s859 s880)), (17, ri s859.2.2), (18, ri s880.2.2)], [], [], 82⟩
theorem ref02_Reach_r17 : R61 C61.r.r.r.r.r.l.r.b.b.r.l.b.r.b.b.r.l.b.r.r.r.r (S61_9 first rows k_ stride pad size s859 s880) q = q .normal (S61_10 first rows k_ stride pad size s859 s880) := Eq.trans (by kernel_rfl) (ref02_Reach_r17_n stride pad s859 s880 (fun y885 : Int => q .normal ⟨[(0, ri first), (1, ri rows), (2, ri k_), (3, ri stride), (4, ri pad), (5, ri size), (15, ri (min (ref02_Reach_j14_p stride pad s859 s880) (ref02_Reach_r12_p stride pad s859 s880))), (16, ri y885), (17, ri s859.2.2), (18, ri s880.2.2)], [], [], 82⟩))
def ref02_Reach_j12_q (K : (Int × Int) → β) : β := (bif (ref02_Reach_r13_p stride pad size s859 s880) then (K (s880.1, s880.2.1)) else (K ((min (ref02_Reach_j14_p stride pad s859 s880) (ref02_Reach_r12_p stride pad s859 s880)), (ref02_Reach_r17_p stride pad s859 s880))))
def ref02_Reach_j12_p : (Int × Int) := ref02_Reach_j12_q stride pad size s859 s880 (fun y => y)
theorem ref02_Reach_j12_n (K : (Int × Int) → β) : ref02_Reach_j12_q stride pad size s859 s880 K = K (ref02_Reach_j12_p stride pad size s859 s880) := (bif_k K rfl rfl)
abbrev S61_11 : St := ⟨[(0, ri first), (1, ri rows), (2, ri k_), (3, ri stride), (4, ri pad), (5, ri size), (15, ri ((ref02_Reach_j12_p stride pad size s859 s880).1)), (16, ri ((ref02_Reach_j12_p stride pad size s859 s880).2)), (17, ri s859.2.2), (18, ri s880.2.2)], [], [], 82⟩
theorem ref02_Reach_j12 : R61 C61.r.r.r.r.r.l.r.b.b.r.l.b.r.b.b.r.l (S61_5 first rows k_ stride pad size s859 s880) (Q61 C61.r.r.r.r.r.l.r.b.b.r.l.b.r.b.b.r.r q) = R61 C61.r.r.r.r.r.l.r.b.b.r.l.b.r.b.b.r.r (S61_11 first rows k_ stride pad size s859 s880) q := by
  refine Eq.trans ?_ (ref02_Reach_j12_n stride pad size s859 s880 (fun y886 : (Int × Int) => R61 C61.r.r.r.r.r.l.r.b.b.r.l.b.r.b.b.r.r ⟨[(0, ri first), (1, ri rows), (2, ri k_), (3, ri stride), (4, ri pad), (5, ri size), (15, ri y886.1), (16, ri y886.2), (17, ri s859.2.2), (18, ri s880.2.2)], [], [], 82⟩ q))
  unfold ref02_Reach_j12_q
  refine (block_push (id := 3)).trans ?_
  refine (pre1 (ref02_Reach_r12 first rows k_ stride pad size s859 s880 _)).trans ?_
  refine .trans seq_push ?_
  refine (pre1 (ref02_Reach_r13 first rows k_ stride pad size s859 s880 _)).trans ?_
  refine (cond_e (b := (ref02_Reach_r13_p stride pad size s859 s880)) (st' := (S61_6 first rows k_ stride pad size s859 s880)) ).trans (bif_g ?_ ?_)
  · refine ((exit_eq (j := 3))).trans ?_
    refine seqC_exit.trans ?_
    refine block_same.trans ?_
    refine (seqC_normal (st' := (S61_5 first rows k_ stride pad size s859 s880))).trans ?_
    kernel_rfl
  · refine (skip_eq).trans ?_
    refine (seqC_normal (st' := (S61_6 first rows k_ stride pad size s859 s880))).trans ?_
    refine .trans seq_push ?_
    refine (ref02_Reach_j14 first rows k_ stride pad size s859 s880 _).trans ?_
    refine (pre1 (ref02_Reach_f17 first rows k_ stride pad size s859 s880 _)).trans ?_
    refine (ref02_Reach_r17 first rows k_ stride pad size s859 s880 _).trans ?_
    refine block_normal.trans ?_
    refine (seqC_normal (st' := (S61_10 first rows k_ stride pad size s859 s880))).trans ?_
    kernel_rfl
theorem ref02_Reach_r11 : R61 C61.r.r.r.r.r.l.r.b.b.r.l.b.r.b.b.r.r (S61_11 first rows k_ stride pad size s859 s880) q = q .normal ⟨[(0, ri first), (1, ri rows), (2, ri k_), (3, ri stride), (4, ri pad), (5, ri size), (15, ri ((ref02_Reach_j12_p stride pad size s859 s880).1)), (16, ri ((ref02_Reach_j12_p stride pad size s859 s880).2)), (17, ri s859.2.2), (18, ri (IntKind.wrap .i64 (s880.2.2 + 1)))], [], [], 82⟩ := by kernel_rfl
def ref02_Reach_l10_p : Option ((Int × Int × Int) ⊕ (Int × Int × Int)) := (bif (decide (s880.2.2 < k_)) then (some (Sum.inl ((ref02_Reach_j12_p stride pad size s859 s880).1, (ref02_Reach_j12_p stride pad size s859 s880).2, (IntKind.wrap .i64 (s880.2.2 + 1))))) else (some (Sum.inr s880)))
abbrev S61_12 : St := ⟨[(0, ri first), (1, ri rows), (2, ri k_), (3, ri stride), (4, ri pad), (5, ri size), (15, ri y887.1), (16, ri y887.2.1), (17, ri s859.2.2), (18, ri y887.2.2)], [], [], 82⟩
theorem ref02_Reach_l10_b : R61 C61.r.r.r.r.r.l.r.b.b.r.l.b.r.b.b (S61_5 first rows k_ stride pad size s859 s880) (loopKont 0 q) = Option.bind (ref02_Reach_l10_p k_ stride pad size s859 s880) (either (fun y : (Int × Int × Int) => q .normal ⟨[(0, ri first), (1, ri rows), (2, ri k_), (3, ri stride), (4, ri pad), (5, ri size), (15, ri y.1), (16, ri y.2.1), (17, ri s859.2.2), (18, ri y.2.2)], [], [], 82⟩) (fun y887 : (Int × Int × Int) => q (.exit 2) (S61_12 first rows k_ stride pad size s859 y887))) := by
  refine .trans ?_ (bif_b e2_0 e2_1)
  refine .trans seq_push ?_
  refine (pre1 (ref02_Reach_fzx2 first rows k_ stride pad size s859 s880 _)).trans ?_
  refine (cond_e (b := (decide (s880.2.2 < k_))) (st' := (S61_5 first rows k_ stride pad size s859 s880)) ).trans (bif_g ?_ ?_)
  · refine (skip_eq).trans ?_
    refine (seqC_normal (st' := (S61_5 first rows k_ stride pad size s859 s880))).trans ?_
    refine .trans seq_push ?_
    refine (ref02_Reach_j12 first rows k_ stride pad size s859 s880 _).trans ?_
    refine (ref02_Reach_r11 first rows k_ stride pad size s859 s880 _).trans ?_
    kernel_rfl
  · refine ((exit_eq (j := 2))).trans ?_
    refine seqC_exit.trans ?_
    kernel_rfl
theorem ref02_Reach_l10 : R61 C61.r.r.r.r.r.l.r.b.b.r.l.b.r.b (S61_4 first rows k_ stride pad size s859) q = Option.bind (iterN (ref02_Reach_l10_p k_ stride pad size s859) LL (s859.1, s859.2.1, (0 : Int))) (fun y887 : (Int × Int × Int) => q (.exit 2) (S61_12 first rows k_ stride pad size s859 y887)) :=
  Eq.trans (by kernel_rfl) (loop_iter1 (S := fun s880 : (Int × Int × Int) => (S61_5 first rows k_ stride pad size s859 s880)) (Y1 := fun y887 : (Int × Int × Int) => ((.exit 2), (S61_12 first rows k_ stride pad size s859 y887))) (fun s q => ref02_Reach_l10_b first rows k_ stride pad size s859 s q) (fun z => rfl) LL (s859.1, s859.2.1, (0 : Int)))
abbrev S61_13 : St := ⟨[(0, ri first), (1, ri rows), (2, ri k_), (3, ri stride), (4, ri pad), (5, ri size), (15, ri y887.1), (16, ri y887.2.1), (17, ri s859.2.2)], [], [], 82⟩
theorem ref02_Reach_r8 : R61 C61.r.r.r.r.r.l.r.b.b.r.r (S61_13 first rows k_ stride pad size s859 y887) q = q .normal ⟨[(0, ri first), (1, ri rows), (2, ri k_), (3, ri stride), (4, ri pad), (5, ri size), (15, ri y887.1), (16, ri y887.2.1), (17, ri (IntKind.wrap .i64 (s859.2.2 + 1)))], [], [], 82⟩ := by kernel_rfl
def ref02_Reach_l7_p : Option ((Int × Int × Int) ⊕ (Int × Int × Int)) := (bif (decide (s859.2.2 < (IntKind.wrap .i64 (first + rows)))) then (Option.bind (iterN (ref02_Reach_l10_p k_ stride pad size s859) LL (s859.1, s859.2.1, (0 : Int))) (fun y887 : (Int × Int × Int) => (some (Sum.inl (y887.1, y887.2.1, (IntKind.wrap .i64 (s859.2.2 + 1))))))) else (some (Sum.inr s859)))
abbrev S61_14 : St := ⟨[(0, ri first), (1, ri rows), (2, ri k_), (3, ri stride), (4, ri pad), (5, ri size), (15, ri y888.1), (16, ri y888.2.1), (17, ri y888.2.2)], [], [], 82⟩
theorem ref02_Reach_l7_b : R61 C61.r.r.r.r.r.l.r.b.b (S61_3 first rows k_ stride pad size s859) (loopKont 0 q) = Option.bind (ref02_Reach_l7_p first rows k_ stride pad size s859) (either (fun y : (Int × Int × Int) => q .normal ⟨[(0, ri first), (1, ri rows), (2, ri k_), (3, ri stride), (4, ri pad), (5, ri size), (15, ri y.1), (16, ri y.2.1), (17, ri y.2.2)], [], [], 82⟩) (fun y888 : (Int × Int × Int) => q (.exit 0) (S61_14 first rows k_ stride pad size y888))) := by
  refine .trans ?_ (bif_b (bind_b fun y887 => e2_0) e2_1)
  refine .trans seq_push ?_
  refine (pre1 (ref02_Reach_fzx1 first rows k_ stride pad size s859 _)).trans ?_
  refine (cond_e (b := (decide (s859.2.2 < (IntKind.wrap .i64 (first + rows))))) (st' := (S61_3 first rows k_ stride pad size s859)) ).trans (bif_g ?_ ?_)
  · refine (skip_eq).trans ?_
    refine (seqC_normal (st' := (S61_3 first rows k_ stride pad size s859))).trans ?_
    refine .trans seq_push ?_
    refine (block_push (id := 1)).trans ?_
    refine (pre1 (ref02_Reach_f10 first rows k_ stride pad size s859 _)).trans ?_
    refine (block_push (id := 2)).trans ?_
    refine (ref02_Reach_l10 first rows k_ stride pad size s859 _).trans (bind_g fun y887 => ?_)
    refine block_same.trans ?_
    refine block_normal.trans ?_
    refine (seqC_normal (st' := (S61_13 first rows k_ stride pad size s859 y887))).trans ?_
    refine (ref02_Reach_r8 first rows k_ stride pad size s859 y887 _).trans ?_
    kernel_rfl
  · refine ((exit_eq (j := 0))).trans ?_
    refine seqC_exit.trans ?_
    kernel_rfl
theorem ref02_Reach_l7 : R61 C61.r.r.r.r.r.l.r.b (S61_2 first rows k_ stride pad size) q = Option.bind (iterN (ref02_Reach_l7_p first rows k_ stride pad size) LL ((0 : Int), (0 : Int), first)) (fun y888 : (Int × Int × Int) => q (.exit 0) (S61_14 first rows k_ stride pad size y888)) :=
  Eq.trans (by kernel_rfl) (loop_iter1 (S := fun s859 : (Int × Int × Int) => (S61_3 first rows k_ stride pad size s859)) (Y1 := fun y888 : (Int × Int × Int) => ((.exit 0), (S61_14 first rows k_ stride pad size y888))) (fun s q => ref02_Reach_l7_b first rows k_ stride pad size s q) (fun z => rfl) LL ((0 : Int), (0 : Int), first))
theorem ref02_Reach_fzx3 : P61 1 C61.r.r.r.r.r.r ⟨[(15, ri y888.1), (16, ri y888.2.1)], [], [], 82⟩ k = k ⟨[(12, ri y888.1), (13, ri y888.2.1)], [], [], 82⟩ := by kernel_rfl
/-- quilt/quiltref02.Reach -/
def ref02_Reach : Option (Int × Int) := (Option.bind (ref02_Out size k_ stride pad) (fun y768 : Int => (bif (ref02_Reach_r4_p first rows y768) then (some ((0 : Int), (0 : Int))) else (Option.bind (iterN (ref02_Reach_l7_p first rows k_ stride pad size) LL ((0 : Int), (0 : Int), first)) (fun y888 : (Int × Int × Int) => (some (y888.1, y888.2.1)))))))
theorem ref02_Reach_is : stepS E cp61 noE 71 [ri first, ri rows, ri k_, ri stride, ri pad, ri size] = Option.bind (ref02_Reach first rows k_ stride pad size) (fun y : (Int × Int) => some (.tup [ri y.1, ri y.2] : R)) := by
  refine .trans ?_ (bind_b fun y768 => (bif_b some_b (bind_b fun y888 => some_b)))
  refine (stepG_is (nt := 82) (regs := [(0, ri first), (1, ri rows), (2, ri k_), (3, ri stride), (4, ri pad), (5, ri size)])).trans ?_
  refine (pre2 (ref02_Reach_r1 first rows k_ stride pad size _)).trans (bind_g fun y768 => ?_)
  refine (pre2 (ref02_Reach_f4 first rows k_ stride pad size y768 _)).trans ?_
  refine .trans seq_push ?_
  refine (pre1 (ref02_Reach_r4 first rows k_ stride pad size y768 _)).trans ?_
  refine (cond_e (b := (ref02_Reach_r4_p first rows y768)) (st' := (S61_1 first rows k_ stride pad size)) ).trans (bif_g ?_ ?_)
  · refine (pre1 (ref02_Reach_fz first rows k_ stride pad size _)).trans ?_
    refine (ret_eq).trans ?_
    refine seqC_ret.trans ?_
    kernel_rfl
  · refine (skip_eq).trans ?_
    refine (seqC_normal (st' := (S61_1 first rows k_ stride pad size))).trans ?_
    refine .trans seq_push ?_
    refine (pre1 (ref02_Reach_f7 first rows k_ stride pad size _)).trans ?_
    refine (block_push (id := 0)).trans ?_
    refine (ref02_Reach_l7 first rows k_ stride pad size _).trans (bind_g fun y888 => ?_)
    refine block_same.trans ?_
    refine (seqC_normal (st' := ⟨[(15, ri y888.1), (16, ri y888.2.1)], [], [], 82⟩)).trans ?_
    refine (pre1 (ref02_Reach_fzx3 y888 _)).trans ?_
    refine (ret_eq).trans ?_
    kernel_rfl
noncomputable def cp62 : CallP := withC cp61 71 [pI, pI, pI, pI, pI, pI] (.tup [pI, pI]) (fun y : (Int × Int) => (y.1, y.2, ())) (fun x => ref02_Reach x.1 x.2.1 x.2.2.1 x.2.2.2.1 x.2.2.2.2.1 x.2.2.2.2.2.1)
theorem cp62_ok : PureOK E cp62 := conS eok cp61_ok noE_ok fun x => Eq.mp (by kernel_rfl) (ref02_Reach_is x.1 x.2.1 x.2.2.1 x.2.2.2.1 x.2.2.2.2.1 x.2.2.2.2.2.1)
end
end Go.V.P
