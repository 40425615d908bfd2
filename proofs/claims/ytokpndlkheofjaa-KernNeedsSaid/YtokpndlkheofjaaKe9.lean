/- What functions compute. -/
import Derived.Test.YtokpndlkheofjaaKe8
namespace Go.V.P
open Go.RowKit Go.V Go.Proofs
set_option linter.unusedVariables false
set_option maxRecDepth 100000
section
variable {α β : Type} (n_ : Node) (in_ : (List I4)) (first : Int) (rows : Int) (y1435 : (I4 × Int)) (s1645 : (Int × Int × Int × Int × Int)) (y1660 : (Int × Int)) (y1661 : (Int × Int × Int × Int)) (y1662 : (Int × Int × Int × Int × Int)) (k : St → Option α) (q : Kont α)
noncomputable abbrev C83 := codeOf E.P 16
noncomputable abbrev P83 := @preK α E 16 cp79 ce4
noncomputable abbrev R83 := @runCode α E 16 cp79 ce4
noncomputable abbrev Q83 := @seqC α E 16 cp79 ce4
abbrev S83_0 : St := ⟨[(1, rl tsI4 in_), (2, ri first), (3, ri rows), (4, rC tsNode n_), (8, rF 0), (10, rF 1), (11, rF 2), (12, ri y1435.2)], [[di 0, di 0, di 0, di 0], [di 0, di 0, di 0, di 0], (tsI4.leaves y1435.1)], [], 111⟩
theorem ref05_Needs_r2 : P83 3 C83 ⟨[(0, rA tsNode n_), (1, rl tsI4 in_), (2, ri first), (3, ri rows)], [], [], 111⟩ k = Option.bind (ref03_Value n_ in_) fun y1435 : (I4 × Int) => k (S83_0 n_ in_ first rows y1435) := by kernel_rfl
theorem ref05_Needs_f1000004 : P83 1 C83.r.r.r.l (S83_0 n_ in_ first rows y1435) k = k ⟨[(1, rl tsI4 in_), (2, ri first), (3, ri rows), (4, rC tsNode n_), (8, rF 0), (10, rF 1), (11, rF 2), (12, ri y1435.2), (25, rb (y1435.2 != 0))], [[di 0, di 0, di 0, di 0], [di 0, di 0, di 0, di 0], (tsI4.leaves y1435.1)], [], 111⟩ := by kernel_rfl
theorem ref05_Needs_fz : P83 1 C83.r.r.r.l.r.t (S83_0 n_ in_ first rows y1435) k = k ⟨[(8, rF 0), (9, ri y1435.2)], [[di 0, di 0, di 0, di 0], [], []], [], 111⟩ := by kernel_rfl
def ref05_Needs_r5_q (K : Bool → β) : β := (bif (decide (first < 0)) then (K true) else (bif (decide (rows < 1)) then (K true) else (bif (decide (first > y1435.1.1)) then (K true) else (K (decide (rows > (IntKind.wrap .i64 (y1435.1.1 - first))))))))
def ref05_Needs_r5_p : Bool := ref05_Needs_r5_q first rows y1435 (fun y => y)
theorem ref05_Needs_r5_n (K : Bool → β) : ref05_Needs_r5_q first rows y1435 K = K (ref05_Needs_r5_p first rows y1435) := (bif_k K rfl (bif_k K rfl (bif_k K rfl rfl)))
abbrev S83_1 : St := ⟨[(1, rl tsI4 in_), (2, ri first), (3, ri rows), (4, rC tsNode n_), (8, rF 0), (10, rF 1), (11, rF 2)], [[di 0, di 0, di 0, di 0], [di 0, di 0, di 0, di 0], (tsI4.leaves y1435.1)], [], 111⟩
theorem ref05_Needs_r5 : P83 1 C83.r.r.r.r.l (S83_1 n_ in_ first rows y1435) k = k ⟨[(1, rl tsI4 in_), (2, ri first), (3, ri rows), (4, rC tsNode n_), (8, rF 0), (10, rF 1), (49, rb (ref05_Needs_r5_p first rows y1435))], [[di 0, di 0, di 0, di 0], [di 0, di 0, di 0, di 0], []], [], 111⟩ := Eq.trans (by kernel_rfl) (ref05_Needs_r5_n first rows y1435 (fun y1437 : Bool => k ⟨[(1, rl tsI4 in_), (2, ri first), (3, ri rows), (4, rC tsNode n_), (8, rF 0), (10, rF 1), (49, rb y1437)], [[di 0, di 0, di 0, di 0], [di 0, di 0, di 0, di 0], []], [], 111⟩))
abbrev S83_2 : St := ⟨[(1, rl tsI4 in_), (2, ri first), (3, ri rows), (4, rC tsNode n_), (8, rF 0), (10, rF 1)], [[di 0, di 0, di 0, di 0], [di 0, di 0, di 0, di 0], []], [], 111⟩
theorem ref05_Needs_fzx1 : P83 1 C83.r.r.r.r.l.r.t (S83_2 n_ in_ first rows) k = k ⟨[(8, rF 0), (9, ri 1)], [[di 0, di 0, di 0, di 0], [], []], [], 111⟩ := by kernel_rfl
abbrev S83_3 : St := ⟨[(1, rl tsI4 in_), (2, ri first), (3, ri rows), (4, rC tsNode n_), (8, rF 0), (10, rF 1), (13, ri 0)], [[di 0, di 0, di 0, di 0], [di 0, di 0, di 0, di 0], []], [], 111⟩
theorem ref05_Needs_f8 : P83 1 C83.r.r.r.r.r.l (S83_2 n_ in_ first rows) k = k (S83_3 n_ in_ first rows) := by kernel_rfl
abbrev S83_4 : St := ⟨[(1, rl tsI4 in_), (2, ri first), (3, ri rows), (4, rC tsNode n_), (8, rF 0), (10, rF 1), (13, ri s1645.1)], [[di 0, di 0, di 0, di 0], (tsI4.leaves s1645.2), []], [], 111⟩
theorem ref05_Needs_fzx2 : P83 1 C83.r.r.r.r.r.l.r.b.b.l (S83_4 n_ in_ first rows s1645) k = k ⟨[(1, rl tsI4 in_), (2, ri first), (3, ri rows), (4, rC tsNode n_), (8, rF 0), (10, rF 1), (13, ri s1645.1), (54, rb (decide (s1645.1 < (in_.length : Int))))], [[di 0, di 0, di 0, di 0], (tsI4.leaves s1645.2), []], [], 111⟩ := by kernel_rfl
def ref05_Needs_r10_p : Option Unit := (bif (decide ((0 : Int) ≤ s1645.1)) then (bif (decide (s1645.1 < (in_.length : Int))) then (some ()) else none) else none)
abbrev S83_5 : St := ⟨[(1, rl tsI4 in_), (2, ri first), (3, ri rows), (4, rC tsNode n_), (8, rF 0), (10, rF 1), (13, ri s1645.1), (14, ri ((gt in_ s1645.1 dI4).1))], [[di 0, di 0, di 0, di 0], (tsI4.leaves s1645.2), []], [], 111⟩
theorem ref05_Needs_r10 : P83 1 C83.r.r.r.r.r.l.r.b.b.r.l.b (S83_4 n_ in_ first rows s1645) k = Option.bind (ref05_Needs_r10_p in_ s1645) (fun y1654 : Unit => k (S83_5 n_ in_ first rows s1645)) := .trans (by kernel_rfl) (bif_b (bif_b some_b none_b) none_b)
abbrev S83_6 : St := ⟨[(1, rl tsI4 in_), (2, ri first), (3, ri rows), (4, rC tsNode n_), (8, rF 0), (10, rF 1), (13, ri s1645.1), (14, ri ((gt in_ s1645.1 dI4).1)), (15, ri first), (16, ri (IntKind.wrap .i64 (first + rows)))], [[di 0, di 0, di 0, di 0], (tsI4.leaves s1645.2), []], [], 111⟩
theorem ref05_Needs_f13 : P83 2 C83.r.r.r.r.r.l.r.b.b.r.l.b.r (S83_5 n_ in_ first rows s1645) k = k (S83_6 n_ in_ first rows s1645) := by kernel_rfl
abbrev S83_7 : St := ⟨[(1, rl tsI4 in_), (2, ri first), (3, ri rows), (4, rC tsNode n_), (8, rF 0), (10, rF 1), (13, ri s1645.1), (14, ri ((gt in_ s1645.1 dI4).1)), (15, ri first), (16, ri (IntKind.wrap .i64 (first + rows))), (68, ri n_.1)], [[di 0, di 0, di 0, di 0], (tsI4.leaves s1645.2), []], [], 111⟩
theorem ref05_Needs_f14 : P83 1 C83.r.r.r.r.r.l.r.b.b.r.l.b.r.r.r.l (S83_6 n_ in_ first rows s1645) k = k (S83_7 n_ in_ first rows s1645) := by kernel_rfl
abbrev S83_8 : St := ⟨[(1, rl tsI4 in_), (2, ri first), (3, ri rows), (4, rC tsNode n_), (8, rF 0), (10, rF 1), (13, ri s1645.1), (14, ri ((gt in_ s1645.1 dI4).1)), (15, ri first), (16, ri (IntKind.wrap .i64 (first + rows))), (68, ri n_.1), (69, rb (n_.1 == 1))], [[di 0, di 0, di 0, di 0], (tsI4.leaves s1645.2), []], [], 111⟩
theorem ref05_Needs_f2000015 : P83 1 C83.r.r.r.r.r.l.r.b.b.r.l.b.r.r.r.l.r.b.l (S83_7 n_ in_ first rows s1645) k = k (S83_8 n_ in_ first rows s1645) := by kernel_rfl
abbrev S83_9 : St := ⟨[(1, rl tsI4 in_), (2, ri first), (3, ri rows), (4, rC tsNode n_), (8, rF 0), (10, rF 1), (13, ri s1645.1), (14, ri ((gt in_ s1645.1 dI4).1)), (15, ri first), (16, ri (IntKind.wrap .i64 (first + rows))), (68, ri n_.1), (69, rb (n_.1 == 2))], [[di 0, di 0, di 0, di 0], (tsI4.leaves s1645.2), []], [], 111⟩
theorem ref05_Needs_f2000016 : P83 1 C83.r.r.r.r.r.l.r.b.b.r.l.b.r.r.r.l.r.b.l.r.e (S83_8 n_ in_ first rows s1645) k = k (S83_9 n_ in_ first rows s1645) := by kernel_rfl
abbrev S83_10 : St := ⟨[(1, rl tsI4 in_), (2, ri first), (3, ri rows), (4, rC tsNode n_), (8, rF 0), (10, rF 1), (13, ri s1645.1), (14, ri ((gt in_ s1645.1 dI4).1)), (15, ri first), (16, ri (IntKind.wrap .i64 (first + rows))), (68, ri n_.1), (69, rb (n_.1 == 4))], [[di 0, di 0, di 0, di 0], (tsI4.leaves s1645.2), []], [], 111⟩
theorem ref05_Needs_f2000017 : P83 1 C83.r.r.r.r.r.l.r.b.b.r.l.b.r.r.r.l.r.b.l.r.e.r.e (S83_9 n_ in_ first rows s1645) k = k (S83_10 n_ in_ first rows s1645) := by kernel_rfl
abbrev S83_11 : St := ⟨[(1, rl tsI4 in_), (2, ri first), (3, ri rows), (4, rC tsNode n_), (8, rF 0), (10, rF 1), (13, ri s1645.1), (14, ri ((gt in_ s1645.1 dI4).1)), (15, ri first), (16, ri (IntKind.wrap .i64 (first + rows))), (68, ri n_.1), (69, rb (n_.1 == 5))], [[di 0, di 0, di 0, di 0], (tsI4.leaves s1645.2), []], [], 111⟩
theorem ref05_Needs_r17 : R83 C83.r.r.r.r.r.l.r.b.b.r.l.b.r.r.r.l.r.b.l.r.e.r.e.r.e (S83_10 n_ in_ first rows s1645) q = q .normal (S83_11 n_ in_ first rows s1645) := by kernel_rfl
def ref05_Needs_j14_q (K : Bool → β) : β := (bif (n_.1 == 1) then (K (n_.1 == 1)) else (bif (n_.1 == 2) then (K (n_.1 == 2)) else (bif (n_.1 == 4) then (K (n_.1 == 4)) else (K (n_.1 == 5)))))
def ref05_Needs_j14_p : Bool := ref05_Needs_j14_q n_ (fun y => y)
theorem ref05_Needs_j14_n (K : Bool → β) : ref05_Needs_j14_q n_ K = K (ref05_Needs_j14_p n_) := (bif_k K rfl (bif_k K rfl (bif_k K rfl rfl)))
abbrev S83_12 : St := ⟨[(1, rl tsI4 in_), (2, ri first), (3, ri rows), (4, rC tsNode n_), (8, rF 0), (10, rF 1), (13, ri s1645.1), (14, ri ((gt in_ s1645.1 dI4).1)), (15, ri first), (16, ri (IntKind.wrap .i64 (first + rows))), (68, ri n_.1), (69, rb (ref05_Needs_j14_p n_))], [[di 0, di 0, di 0, di 0], (tsI4.leaves s1645.2), []], [], 111⟩
theorem ref05_Needs_j14 : R83 C83.r.r.r.r.r.l.r.b.b.r.l.b.r.r.r.l.r.b.l (S83_7 n_ in_ first rows s1645) (Q83 C83.r.r.r.r.r.l.r.b.b.r.l.b.r.r.r.l.r.b.r q) = R83 C83.r.r.r.r.r.l.r.b.b.r.l.b.r.r.r.l.r.b.r (S83_12 n_ in_ first rows s1645) q := by
  refine Eq.trans ?_ (ref05_Needs_j14_n n_ (fun y1655 : Bool => R83 C83.r.r.r.r.r.l.r.b.b.r.l.b.r.r.r.l.r.b.r ⟨[(1, rl tsI4 in_), (2, ri first), (3, ri rows), (4, rC tsNode n_), (8, rF 0), (10, rF 1), (13, ri s1645.1), (14, ri ((gt in_ s1645.1 dI4).1)), (15, ri first), (16, ri (IntKind.wrap .i64 (first + rows))), (68, ri n_.1), (69, rb y1655)], [[di 0, di 0, di 0, di 0], (tsI4.leaves s1645.2), []], [], 111⟩ q))
  unfold ref05_Needs_j14_q
  refine (pre1 (ref05_Needs_f2000015 n_ in_ first rows s1645 _)).trans ?_
  refine (cond_s (b := (n_.1 == 1)) ).trans (bif_g ?_ ?_)
  · refine (skip_eq).trans ?_
    refine (seqC_normal (st' := (S83_8 n_ in_ first rows s1645))).trans ?_
    kernel_rfl
  · refine (pre1 (ref05_Needs_f2000016 n_ in_ first rows s1645 _)).trans ?_
    refine (cond_s (b := (n_.1 == 2)) ).trans (bif_g ?_ ?_)
    · refine (skip_eq).trans ?_
      refine (seqC_normal (st' := (S83_9 n_ in_ first rows s1645))).trans ?_
      kernel_rfl
    · refine (pre1 (ref05_Needs_f2000017 n_ in_ first rows s1645 _)).trans ?_
      refine (cond_s (b := (n_.1 == 4)) ).trans (bif_g ?_ ?_)
      · refine (skip_eq).trans ?_
        refine (seqC_normal (st' := (S83_10 n_ in_ first rows s1645))).trans ?_
        kernel_rfl
      · refine (ref05_Needs_r17 n_ in_ first rows s1645 _).trans ?_
        refine (seqC_normal (st' := (S83_11 n_ in_ first rows s1645))).trans ?_
        kernel_rfl
abbrev S83_13 (y1656 : (Int × Int)) : St := ⟨[(1, rl tsI4 in_), (2, ri first), (3, ri rows), (4, rC tsNode n_), (8, rF 0), (10, rF 1), (13, ri s1645.1), (15, ri y1656.1), (16, ri y1656.2)], [[di 0, di 0, di 0, di 0], (tsI4.leaves s1645.2), []], [], 111⟩
theorem ref05_Needs_r18 : R83 C83.r.r.r.r.r.l.r.b.b.r.l.b.r.r.r.l.r.b.r.t (S83_12 n_ in_ first rows s1645) q = Option.bind (ref02_Reach first rows n_.2.2.1 n_.2.2.2.1 n_.2.2.2.2.1 ((gt in_ s1645.1 dI4).1)) fun y1656 : (Int × Int) => q .normal (S83_13 n_ in_ first rows s1645 y1656) := by kernel_rfl
theorem ref05_Needs_f1000020 : P83 1 C83.r.r.r.r.r.l.r.b.b.r.l.b.r.r.r.l.r.b.r.e (S83_12 n_ in_ first rows s1645) k = k ⟨[(1, rl tsI4 in_), (2, ri first), (3, ri rows), (4, rC tsNode n_), (8, rF 0), (10, rF 1), (13, ri s1645.1), (14, ri ((gt in_ s1645.1 dI4).1)), (15, ri first), (16, ri (IntKind.wrap .i64 (first + rows))), (68, ri n_.1), (87, rb (n_.1 == 9))], [[di 0, di 0, di 0, di 0], (tsI4.leaves s1645.2), []], [], 111⟩ := by kernel_rfl
def ref05_Needs_r21_q (K : Int → β) : β := (K (min (IntKind.wrap .i64 ((IntKind.wrap .i64 (first + rows)) - 1)) ((gt in_ s1645.1 dI4).1)))
def ref05_Needs_r21_p : Int := ref05_Needs_r21_q in_ first rows s1645 (fun y => y)
theorem ref05_Needs_r21_n (K : Int → β) : ref05_Needs_r21_q in_ first rows s1645 K = K (ref05_Needs_r21_p in_ first rows s1645) := rfl
abbrev S83_14 : St := ⟨[(1, rl tsI4 in_), (2, ri first), (3, ri rows), (4, rC tsNode n_), (8, rF 0), (10, rF 1), (13, ri s1645.1), (15, ri (max (IntKind.wrap .i64 (first - 1)) (0 : Int))), (16, ri (ref05_Needs_r21_p in_ first rows s1645))], [[di 0, di 0, di 0, di 0], (tsI4.leaves s1645.2), []], [], 111⟩
theorem ref05_Needs_r21 : P83 2 C83.r.r.r.r.r.l.r.b.b.r.l.b.r.r.r.l.r.b.r.e.r.t (S83_7 n_ in_ first rows s1645) k = k (S83_14 n_ in_ first rows s1645) := Eq.trans (by kernel_rfl) (ref05_Needs_r21_n in_ first rows s1645 (fun y1657 : Int => k ⟨[(1, rl tsI4 in_), (2, ri first), (3, ri rows), (4, rC tsNode n_), (8, rF 0), (10, rF 1), (13, ri s1645.1), (15, ri (max (IntKind.wrap .i64 (first - 1)) (0 : Int))), (16, ri y1657)], [[di 0, di 0, di 0, di 0], (tsI4.leaves s1645.2), []], [], 111⟩))
def ref05_Needs_r22_q (K : Bool → β) : β := (K (decide ((max (IntKind.wrap .i64 (first - 1)) (0 : Int)) ≥ (ref05_Needs_r21_p in_ first rows s1645))))
def ref05_Needs_r22_p : Bool := ref05_Needs_r22_q in_ first rows s1645 (fun y => y)
theorem ref05_Needs_r22_n (K : Bool → β) : ref05_Needs_r22_q in_ first rows s1645 K = K (ref05_Needs_r22_p in_ first rows s1645) := rfl
theorem ref05_Needs_r22 : P83 1 C83.r.r.r.r.r.l.r.b.b.r.l.b.r.r.r.l.r.b.r.e.r.t.r.r (S83_14 n_ in_ first rows s1645) k = k ⟨[(1, rl tsI4 in_), (2, ri first), (3, ri rows), (4, rC tsNode n_), (8, rF 0), (10, rF 1), (13, ri s1645.1), (15, ri (max (IntKind.wrap .i64 (first - 1)) (0 : Int))), (16, ri (ref05_Needs_r21_p in_ first rows s1645)), (100, rb (ref05_Needs_r22_p in_ first rows s1645))], [[di 0, di 0, di 0, di 0], (tsI4.leaves s1645.2), []], [], 111⟩ := Eq.trans (by kernel_rfl) (ref05_Needs_r22_n in_ first rows s1645 (fun y1658 : Bool => k ⟨[(1, rl tsI4 in_), (2, ri first), (3, ri rows), (4, rC tsNode n_), (8, rF 0), (10, rF 1), (13, ri s1645.1), (15, ri (max (IntKind.wrap .i64 (first - 1)) (0 : Int))), (16, ri (ref05_Needs_r21_p in_ first rows s1645)), (100, rb y1658)], [[di 0, di 0, di 0, di 0], (tsI4.leaves s1645.2), []], [], 111⟩))
abbrev S83_15 : St := ⟨[(1, rl tsI4 in_), (2, ri first), (3, ri rows), (4, rC tsNode n_), (8, rF 0), (10, rF 1), (13, ri s1645.1), (15, ri 0)], [[di 0, di 0, di 0, di 0], (tsI4.leaves s1645.2), []], [], 111⟩
theorem ref05_Needs_f24 : P83 1 C83.r.r.r.r.r.l.r.b.b.r.l.b.r.r.r.l.r.b.r.e.r.t.r.r.r.t (S83_14 n_ in_ first rows s1645) k = k (S83_15 n_ in_ first rows s1645) := by kernel_rfl
abbrev S83_16 : St := ⟨[(1, rl tsI4 in_), (2, ri first), (3, ri rows), (4, rC tsNode n_), (8, rF 0), (10, rF 1), (13, ri s1645.1), (15, ri 0), (16, ri 0)], [[di 0, di 0, di 0, di 0], (tsI4.leaves s1645.2), []], [], 111⟩
theorem ref05_Needs_r24 : R83 C83.r.r.r.r.r.l.r.b.b.r.l.b.r.r.r.l.r.b.r.e.r.t.r.r.r.t.r (S83_15 n_ in_ first rows s1645) q = q .normal (S83_16 n_ in_ first rows s1645) := by kernel_rfl
abbrev S83_17 : St := ⟨[(1, rl tsI4 in_), (2, ri first), (3, ri rows), (4, rC tsNode n_), (8, rF 0), (10, rF 1), (13, ri s1645.1), (14, ri ((gt in_ s1645.1 dI4).1)), (15, ri first), (16, ri (IntKind.wrap .i64 (first + rows))), (68, ri n_.1), (101, rb (n_.1 == 3))], [[di 0, di 0, di 0, di 0], (tsI4.leaves s1645.2), []], [], 111⟩
theorem ref05_Needs_f2000026 : P83 1 C83.r.r.r.r.r.l.r.b.b.r.l.b.r.r.r.l.r.b.r.e.r.e.l (S83_7 n_ in_ first rows s1645) k = k (S83_17 n_ in_ first rows s1645) := by kernel_rfl
abbrev S83_18 : St := ⟨[(1, rl tsI4 in_), (2, ri first), (3, ri rows), (4, rC tsNode n_), (8, rF 0), (10, rF 1), (13, ri s1645.1), (14, ri ((gt in_ s1645.1 dI4).1)), (15, ri first), (16, ri (IntKind.wrap .i64 (first + rows))), (101, rb (n_.1 == 11))], [[di 0, di 0, di 0, di 0], (tsI4.leaves s1645.2), []], [], 111⟩
theorem ref05_Needs_r26 : R83 C83.r.r.r.r.r.l.r.b.b.r.l.b.r.r.r.l.r.b.r.e.r.e.l.r.e (S83_17 n_ in_ first rows s1645) q = q .normal (S83_18 n_ in_ first rows s1645) := by kernel_rfl
def ref05_Needs_j25_q (K : Bool → β) : β := (bif (n_.1 == 3) then (K (n_.1 == 3)) else (K (n_.1 == 11)))
def ref05_Needs_j25_p : Bool := ref05_Needs_j25_q n_ (fun y => y)
theorem ref05_Needs_j25_n (K : Bool → β) : ref05_Needs_j25_q n_ K = K (ref05_Needs_j25_p n_) := (bif_k K rfl rfl)
abbrev S83_19 : St := ⟨[(1, rl tsI4 in_), (2, ri first), (3, ri rows), (4, rC tsNode n_), (8, rF 0), (10, rF 1), (13, ri s1645.1), (14, ri ((gt in_ s1645.1 dI4).1)), (15, ri first), (16, ri (IntKind.wrap .i64 (first + rows))), (101, rb (ref05_Needs_j25_p n_))], [[di 0, di 0, di 0, di 0], (tsI4.leaves s1645.2), []], [], 111⟩
theorem ref05_Needs_j25 : R83 C83.r.r.r.r.r.l.r.b.b.r.l.b.r.r.r.l.r.b.r.e.r.e.l (S83_7 n_ in_ first rows s1645) (Q83 C83.r.r.r.r.r.l.r.b.b.r.l.b.r.r.r.l.r.b.r.e.r.e.r q) = R83 C83.r.r.r.r.r.l.r.b.b.r.l.b.r.r.r.l.r.b.r.e.r.e.r (S83_19 n_ in_ first rows s1645) q := by
  refine Eq.trans ?_ (ref05_Needs_j25_n n_ (fun y1659 : Bool => R83 C83.r.r.r.r.r.l.r.b.b.r.l.b.r.r.r.l.r.b.r.e.r.e.r ⟨[(1, rl tsI4 in_), (2, ri first), (3, ri rows), (4, rC tsNode n_), (8, rF 0), (10, rF 1), (13, ri s1645.1), (14, ri ((gt in_ s1645.1 dI4).1)), (15, ri first), (16, ri (IntKind.wrap .i64 (first + rows))), (101, rb y1659)], [[di 0, di 0, di 0, di 0], (tsI4.leaves s1645.2), []], [], 111⟩ q))
  unfold ref05_Needs_j25_q
  refine (pre1 (ref05_Needs_f2000026 n_ in_ first rows s1645 _)).trans ?_
  refine (cond_s (b := (n_.1 == 3)) ).trans (bif_g ?_ ?_)
  · refine (skip_eq).trans ?_
    refine (seqC_normal (st' := ⟨[(1, rl tsI4 in_), (2, ri first), (3, ri rows), (4, rC tsNode n_), (8, rF 0), (10, rF 1), (13, ri s1645.1), (14, ri ((gt in_ s1645.1 dI4).1)), (15, ri first), (16, ri (IntKind.wrap .i64 (first + rows))), (101, rb (n_.1 == 3))], [[di 0, di 0, di 0, di 0], (tsI4.leaves s1645.2), []], [], 111⟩)).trans ?_
    kernel_rfl
  · refine (ref05_Needs_r26 n_ in_ first rows s1645 _).trans ?_
    refine (seqC_normal (st' := (S83_18 n_ in_ first rows s1645))).trans ?_
    kernel_rfl
abbrev S83_20 : St := ⟨[(1, rl tsI4 in_), (2, ri first), (3, ri rows), (4, rC tsNode n_), (8, rF 0), (10, rF 1), (13, ri s1645.1), (14, ri ((gt in_ s1645.1 dI4).1)), (15, ri 0)], [[di 0, di 0, di 0, di 0], (tsI4.leaves s1645.2), []], [], 111⟩
theorem ref05_Needs_f28 : P83 1 C83.r.r.r.r.r.l.r.b.b.r.l.b.r.r.r.l.r.b.r.e.r.e.r.t (S83_19 n_ in_ first rows s1645) k = k (S83_20 n_ in_ first rows s1645) := by kernel_rfl
abbrev S83_21 : St := ⟨[(1, rl tsI4 in_), (2, ri first), (3, ri rows), (4, rC tsNode n_), (8, rF 0), (10, rF 1), (13, ri s1645.1), (15, ri 0), (16, ri ((gt in_ s1645.1 dI4).1))], [[di 0, di 0, di 0, di 0], (tsI4.leaves s1645.2), []], [], 111⟩
theorem ref05_Needs_r28 : R83 C83.r.r.r.r.r.l.r.b.b.r.l.b.r.r.r.l.r.b.r.e.r.e.r.t.r (S83_20 n_ in_ first rows s1645) q = q .normal (S83_21 n_ in_ first rows s1645) := by kernel_rfl
def ref05_Needs_j13_p : Option (Int × Int) := (bif (ref05_Needs_j14_p n_) then (Option.bind (ref02_Reach first rows n_.2.2.1 n_.2.2.2.1 n_.2.2.2.2.1 ((gt in_ s1645.1 dI4).1)) (fun y1656 : (Int × Int) => (some y1656))) else (bif (n_.1 == 9) then (bif (ref05_Needs_r22_p in_ first rows s1645) then (some ((0 : Int), (0 : Int))) else (some ((max (IntKind.wrap .i64 (first - 1)) (0 : Int)), (ref05_Needs_r21_p in_ first rows s1645)))) else (bif (ref05_Needs_j25_p n_) then (some ((0 : Int), (gt in_ s1645.1 dI4).1)) else (some (first, (IntKind.wrap .i64 (first + rows)))))))
abbrev S83_22 : St := ⟨[(1, rl tsI4 in_), (2, ri first), (3, ri rows), (4, rC tsNode n_), (8, rF 0), (10, rF 1), (13, ri s1645.1), (15, ri y1660.1), (16, ri y1660.2)], [[di 0, di 0, di 0, di 0], (tsI4.leaves s1645.2), []], [], 111⟩
theorem ref05_Needs_j13 : R83 C83.r.r.r.r.r.l.r.b.b.r.l.b.r.r.r.l (S83_6 n_ in_ first rows s1645) (Q83 C83.r.r.r.r.r.l.r.b.b.r.l.b.r.r.r.r q) = Option.bind (ref05_Needs_j13_p n_ in_ first rows s1645) (fun y1660 : (Int × Int) => R83 C83.r.r.r.r.r.l.r.b.b.r.l.b.r.r.r.r (S83_22 n_ in_ first rows s1645 y1660) q) := by
  refine .trans ?_ (bif_b (bind_b fun y1656 => some_b) (bif_b (bif_b some_b some_b) (bif_b some_b some_b)))
  refine (pre1 (ref05_Needs_f14 n_ in_ first rows s1645 _)).trans ?_
  refine (block_push (id := 2)).trans ?_
  refine .trans seq_push ?_
  refine (ref05_Needs_j14 n_ in_ first rows s1645 _).trans ?_
  refine (cond_s (b := (ref05_Needs_j14_p n_)) ).trans (bif_g ?_ ?_)
  · refine (ref05_Needs_r18 n_ in_ first rows s1645 _).trans (bind_g fun y1656 => ?_)
    refine block_normal.trans ?_
    refine (seqC_normal (st' := (S83_13 n_ in_ first rows s1645 y1656))).trans ?_
    kernel_rfl
  · refine (pre1 (ref05_Needs_f1000020 n_ in_ first rows s1645 _)).trans ?_
    refine (cond_e (b := (n_.1 == 9)) (st' := (S83_7 n_ in_ first rows s1645)) ).trans (bif_g ?_ ?_)
    · refine (pre2 (ref05_Needs_r21 n_ in_ first rows s1645 _)).trans ?_
      refine (pre1 (ref05_Needs_r22 n_ in_ first rows s1645 _)).trans ?_
      refine (cond_e (b := (ref05_Needs_r22_p in_ first rows s1645)) (st' := (S83_14 n_ in_ first rows s1645)) ).trans (bif_g ?_ ?_)
      · refine (pre1 (ref05_Needs_f24 n_ in_ first rows s1645 _)).trans ?_
        refine (ref05_Needs_r24 n_ in_ first rows s1645 _).trans ?_
        refine block_normal.trans ?_
        refine (seqC_normal (st' := (S83_16 n_ in_ first rows s1645))).trans ?_
        kernel_rfl
      · refine (skip_eq).trans ?_
        refine block_normal.trans ?_
        refine (seqC_normal (st' := (S83_14 n_ in_ first rows s1645))).trans ?_
        kernel_rfl
    · refine .trans seq_push ?_
      refine (ref05_Needs_j25 n_ in_ first rows s1645 _).trans ?_
      refine (cond_s (b := (ref05_Needs_j25_p n_)) ).trans (bif_g ?_ ?_)
      · refine (pre1 (ref05_Needs_f28 n_ in_ first rows s1645 _)).trans ?_
        refine (ref05_Needs_r28 n_ in_ first rows s1645 _).trans ?_
        refine block_normal.trans ?_
        refine (seqC_normal (st' := (S83_21 n_ in_ first rows s1645))).trans ?_
        kernel_rfl
      · refine (skip_eq).trans ?_
        refine block_normal.trans ?_
        refine (seqC_normal (st' := ⟨[(1, rl tsI4 in_), (2, ri first), (3, ri rows), (4, rC tsNode n_), (8, rF 0), (10, rF 1), (13, ri s1645.1), (15, ri first), (16, ri (IntKind.wrap .i64 (first + rows)))], [[di 0, di 0, di 0, di 0], (tsI4.leaves s1645.2), []], [], 111⟩)).trans ?_
        kernel_rfl
def ref05_Needs_r29_p : Option (Int × Int × Int × Int) := (bif (s1645.1 == 0) then (some (y1660.1, y1660.2, s1645.2.2.2.1, s1645.2.2.2.2)) else (bif (s1645.1 == 1) then (some (s1645.2.1, s1645.2.2.1, y1660.1, y1660.2)) else none))
abbrev S83_23 : St := ⟨[(1, rl tsI4 in_), (2, ri first), (3, ri rows), (4, rC tsNode n_), (8, rF 0), (10, rF 1), (13, ri s1645.1)], [[di 0, di 0, di 0, di 0], (tsI4.leaves y1661), []], [], 111⟩
theorem ref05_Needs_r29 : R83 C83.r.r.r.r.r.l.r.b.b.r.l.b.r.r.r.r (S83_22 n_ in_ first rows s1645 y1660) q = Option.bind (ref05_Needs_r29_p s1645 y1660) (fun y1661 : (Int × Int × Int × Int) => q .normal (S83_23 n_ in_ first rows s1645 y1661)) := .trans (by kernel_rfl) (bif_b some_b (bif_b some_b none_b))
theorem ref05_Needs_r9 : R83 C83.r.r.r.r.r.l.r.b.b.r.r (S83_23 n_ in_ first rows s1645 y1661) q = q .normal ⟨[(1, rl tsI4 in_), (2, ri first), (3, ri rows), (4, rC tsNode n_), (8, rF 0), (10, rF 1), (13, ri (IntKind.wrap .i64 (s1645.1 + 1)))], [[di 0, di 0, di 0, di 0], (tsI4.leaves y1661), []], [], 111⟩ := by kernel_rfl
def ref05_Needs_l8_p : Option ((Int × Int × Int × Int × Int) ⊕ (Int × Int × Int × Int × Int)) := (bif (decide (s1645.1 < (in_.length : Int))) then (Option.bind (ref05_Needs_r10_p in_ s1645) (fun y1654 : Unit => (Option.bind (ref05_Needs_j13_p n_ in_ first rows s1645) (fun y1660 : (Int × Int) => (Option.bind (ref05_Needs_r29_p s1645 y1660) (fun y1661 : (Int × Int × Int × Int) => (some (Sum.inl ((IntKind.wrap .i64 (s1645.1 + 1)), y1661.1, y1661.2.1, y1661.2.2.1, y1661.2.2.2))))))))) else (some (Sum.inr s1645)))
abbrev S83_24 : St := ⟨[(1, rl tsI4 in_), (2, ri first), (3, ri rows), (4, rC tsNode n_), (8, rF 0), (10, rF 1), (13, ri y1662.1)], [[di 0, di 0, di 0, di 0], (tsI4.leaves y1662.2), []], [], 111⟩
theorem ref05_Needs_l8_b : R83 C83.r.r.r.r.r.l.r.b.b (S83_4 n_ in_ first rows s1645) (loopKont 3 q) = Option.bind (ref05_Needs_l8_p n_ in_ first rows s1645) (either (fun y : (Int × Int × Int × Int × Int) => q .normal ⟨[(1, rl tsI4 in_), (2, ri first), (3, ri rows), (4, rC tsNode n_), (8, rF 0), (10, rF 1), (13, ri y.1)], [[di 0, di 0, di 0, di 0], (tsI4.leaves y.2), []], [], 111⟩) (fun y1662 : (Int × Int × Int × Int × Int) => q (.exit 0) (S83_24 n_ in_ first rows y1662))) := by
  refine .trans ?_ (bif_b (bind_b fun y1654 => (bind_b fun y1660 => (bind_b fun y1661 => e2_0))) e2_1)
  refine .trans seq_push ?_
  refine (pre1 (ref05_Needs_fzx2 n_ in_ first rows s1645 _)).trans ?_
  refine (cond_e (b := (decide (s1645.1 < (in_.length : Int)))) (st' := (S83_4 n_ in_ first rows s1645)) ).trans (bif_g ?_ ?_)
  · refine (skip_eq).trans ?_
    refine (seqC_normal (st' := (S83_4 n_ in_ first rows s1645))).trans ?_
    refine .trans seq_push ?_
    refine (block_push (id := 1)).trans ?_
    refine (pre1 (ref05_Needs_r10 n_ in_ first rows s1645 _)).trans (bind_g fun y1654 => ?_)
    refine (pre2 (ref05_Needs_f13 n_ in_ first rows s1645 _)).trans ?_
    refine .trans seq_push ?_
    refine (ref05_Needs_j13 n_ in_ first rows s1645 _).trans (bind_g fun y1660 => ?_)
    refine (ref05_Needs_r29 n_ in_ first rows s1645 y1660 _).trans (bind_g fun y1661 => ?_)
    refine block_normal.trans ?_
    refine (seqC_normal (st' := (S83_23 n_ in_ first rows s1645 y1661))).trans ?_
    refine (ref05_Needs_r9 n_ in_ first rows s1645 y1661 _).trans ?_
    kernel_rfl
  · refine ((exit_eq (j := 0))).trans ?_
    refine seqC_exit.trans ?_
    kernel_rfl
theorem ref05_Needs_l8 : R83 C83.r.r.r.r.r.l.r.b (S83_3 n_ in_ first rows) q = Option.bind (iterN (ref05_Needs_l8_p n_ in_ first rows) LL ((0 : Int), (0 : Int), (0 : Int), (0 : Int), (0 : Int))) (fun y1662 : (Int × Int × Int × Int × Int) => q (.exit 0) (S83_24 n_ in_ first rows y1662)) :=
  Eq.trans (by kernel_rfl) (loop_iter1 (S := fun s1645 : (Int × Int × Int × Int × Int) => (S83_4 n_ in_ first rows s1645)) (Y1 := fun y1662 : (Int × Int × Int × Int × Int) => ((.exit 0), (S83_24 n_ in_ first rows y1662))) (fun s q => ref05_Needs_l8_b n_ in_ first rows s q) (fun z => rfl) LL ((0 : Int), (0 : Int), (0 : Int), (0 : Int), (0 : Int)))
abbrev S83_25 : St := ⟨[(8, rF 0), (10, rF 1)], [[di 0, di 0, di 0, di 0], (tsI4.leaves y1662.2), []], [], 111⟩
theorem ref05_Needs_fzx3 : P83 1 C83.r.r.r.r.r.r (S83_25 y1662) k = k ⟨[(8, rF 0), (9, ri 0)], [(tsI4.leaves y1662.2), [], []], [], 111⟩ := by kernel_rfl
/-- quilt/quiltref05.Needs -/
def ref05_Needs : Option (I4 × Int) := (Option.bind (ref03_Value n_ in_) (fun y1435 : (I4 × Int) => (bif (y1435.2 != 0) then (some (((0 : Int), (0 : Int), (0 : Int), (0 : Int)), y1435.2)) else (bif (ref05_Needs_r5_p first rows y1435) then (some (((0 : Int), (0 : Int), (0 : Int), (0 : Int)), (1 : Int))) else (Option.bind (iterN (ref05_Needs_l8_p n_ in_ first rows) LL ((0 : Int), (0 : Int), (0 : Int), (0 : Int), (0 : Int))) (fun y1662 : (Int × Int × Int × Int × Int) => (some (y1662.2, (0 : Int)))))))))
theorem ref05_Needs_is : stepS E cp79 ce4 16 [rA tsNode n_, rl tsI4 in_, ri first, ri rows] = Option.bind (ref05_Needs n_ in_ first rows) (fun y : (I4 × Int) => some (.tup [rA tsI4 y.1, ri y.2] : R)) := by
  refine .trans ?_ (bind_b fun y1435 => (bif_b some_b (bif_b some_b (bind_b fun y1662 => some_b))))
  refine (stepG_is (nt := 111) (regs := [(0, rA tsNode n_), (1, rl tsI4 in_), (2, ri first), (3, ri rows)])).trans ?_
  refine (pre3 (ref05_Needs_r2 n_ in_ first rows _)).trans (bind_g fun y1435 => ?_)
  refine .trans seq_push ?_
  refine (pre1 (ref05_Needs_f1000004 n_ in_ first rows y1435 _)).trans ?_
  refine (cond_e (b := (y1435.2 != 0)) (st' := (S83_0 n_ in_ first rows y1435)) ).trans (bif_g ?_ ?_)
  · refine (pre1 (ref05_Needs_fz n_ in_ first rows y1435 _)).trans ?_
    refine (ret_eq).trans ?_
    refine seqC_ret.trans ?_
    kernel_rfl
  · refine (skip_eq).trans ?_
    refine (seqC_normal (st' := (S83_1 n_ in_ first rows y1435))).trans ?_
    refine .trans seq_push ?_
    refine (pre1 (ref05_Needs_r5 n_ in_ first rows y1435 _)).trans ?_
    refine (cond_e (b := (ref05_Needs_r5_p first rows y1435)) (st' := (S83_2 n_ in_ first rows)) ).trans (bif_g ?_ ?_)
    · refine (pre1 (ref05_Needs_fzx1 n_ in_ first rows _)).trans ?_
      refine (ret_eq).trans ?_
      refine seqC_ret.trans ?_
      kernel_rfl
    · refine (skip_eq).trans ?_
      refine (seqC_normal (st' := (S83_2 n_ in_ first rows))).trans ?_
      refine .trans seq_push ?_
      refine (pre1 (ref05_Needs_f8 n_ in_ first rows _)).trans ?_
      refine (block_push (id := 0)).trans ?_
      refine (ref05_Needs_l8 n_ in_ first rows _).trans (bind_g fun y1662 => ?_)
      refine block_same.trans ?_
      refine (seqC_normal (st' := (S83_25 y1662))).trans ?_
      refine (pre1 (ref05_Needs_fzx3 y1662 _)).trans ?_
      refine (ret_eq).trans ?_
      kernel_rfl
noncomputable def cp80 : CallP := withC cp79 16 [(.agg tsNode), (pL tsI4), pI, pI] (.tup [(.agg tsI4), pI]) (fun y : (I4 × Int) => (y.1, y.2, ())) (fun x => ref05_Needs x.1 x.2.1 x.2.2.1 x.2.2.2.1)
theorem cp80_ok : PureOK E cp80 := conS eok cp79_ok ce4_ok fun x => Eq.mp (by kernel_rfl) (ref05_Needs_is x.1 x.2.1 x.2.2.1 x.2.2.2.1)
end
section
variable {α β : Type} (n_ : Node) (in_ : (List I4)) (at_ : I2) (y1320 : Bool) (y1332 : (Int × Int × Int × Int × Int)) (y1664 : (Int × Int × Int × Int × Int)) (k : St → Option α)
noncomputable abbrev C84 := codeOf E.P 3
noncomputable abbrev P84 := @preK α E 3 cp80 ce4
abbrev S84_0 : St := ⟨[(1, rl tsI4 in_), (3, rC tsNode n_), (5, rC tsI2 at_), (7, rb y1320)], [], [], 48⟩
theorem law05_KernNeeds_r1 : P84 2 C84 ⟨[(0, rA tsNode n_), (1, rl tsI4 in_), (2, rA tsI2 at_)], [], [], 48⟩ k = Option.bind law05_shown fun y1320 : Bool => k (S84_0 n_ in_ at_ y1320) := by kernel_rfl
def law05_KernNeeds_r2_p : Option (Int × Int × Int × Int × Int) := (Option.bind (law05_few n_) (fun y1327 : Node => (Option.bind (law05_some in_) (fun y1330 : (List I4) => (Option.bind (kern_Needs y1327 y1330 at_.1 at_.2) (fun y1331 : (I4 × Int) => (some (y1331.2, y1331.1.1, y1331.1.2.1, y1331.1.2.2.1, y1331.1.2.2.2))))))))
abbrev S84_1 : St := ⟨[(1, rl tsI4 in_), (3, rC tsNode n_), (5, rC tsI2 at_), (7, rb y1320), (8, rF 0), (9, ri y1332.1)], [(tsI4.leaves y1332.2)], [], 48⟩
theorem law05_KernNeeds_r2 : P84 1 C84.r.r (S84_0 n_ in_ at_ y1320) k = Option.bind (law05_KernNeeds_r2_p n_ in_ at_) (fun y1332 : (Int × Int × Int × Int × Int) => k (S84_1 n_ in_ at_ y1320 y1332)) := .trans (by kernel_rfl) (bind_b fun y1327 => (bind_b fun y1330 => (bind_b fun y1331 => some_b)))
def law05_KernNeeds_r3_p : Option (Int × Int × Int × Int × Int) := (Option.bind (law05_few n_) (fun y1333 : Node => (Option.bind (law05_some in_) (fun y1334 : (List I4) => (Option.bind (ref05_Needs y1333 y1334 at_.1 at_.2) (fun y1663 : (I4 × Int) => (some (y1663.2, y1663.1.1, y1663.1.2.1, y1663.1.2.2.1, y1663.1.2.2.2))))))))
abbrev S84_2 : St := ⟨[(7, rb y1320), (8, rF 0), (9, ri y1332.1), (10, rF 1), (11, ri y1664.1)], [(tsI4.leaves y1332.2), (tsI4.leaves y1664.2)], [], 48⟩
theorem law05_KernNeeds_r3 : P84 1 C84.r.r.r (S84_1 n_ in_ at_ y1320 y1332) k = Option.bind (law05_KernNeeds_r3_p n_ in_ at_) (fun y1664 : (Int × Int × Int × Int × Int) => k (S84_2 y1320 y1332 y1664)) := .trans (by kernel_rfl) (bind_b fun y1333 => (bind_b fun y1334 => (bind_b fun y1663 => some_b)))
def law05_KernNeeds_r4_q (K : Bool → β) : β := (bif y1320 then (bif ((y1332.2.1 == y1664.2.1) && ((y1332.2.2.1 == y1664.2.2.1) && ((y1332.2.2.2.1 == y1664.2.2.2.1) && ((y1332.2.2.2.2 == y1664.2.2.2.2) && true)))) then (K (y1332.1 == y1664.1)) else (K false)) else (K false))
def law05_KernNeeds_r4_p : Bool := law05_KernNeeds_r4_q y1320 y1332 y1664 (fun y => y)
theorem law05_KernNeeds_r4_n (K : Bool → β) : law05_KernNeeds_r4_q y1320 y1332 y1664 K = K (law05_KernNeeds_r4_p y1320 y1332 y1664) := (bif_k K (bif_k K rfl rfl) rfl)
theorem law05_KernNeeds_r4 : P84 1 C84.r.r.r.r (S84_2 y1320 y1332 y1664) k = k ⟨[(6, rb (law05_KernNeeds_r4_p y1320 y1332 y1664))], [[], []], [], 48⟩ := Eq.trans (by kernel_rfl) (law05_KernNeeds_r4_n y1320 y1332 y1664 (fun y1665 : Bool => k ⟨[(6, rb y1665)], [[], []], [], 48⟩))
/-- quilt/quiltlaw05.KernNeeds -/
def law05_KernNeeds : Option Bool := (Option.bind law05_shown (fun y1320 : Bool => (Option.bind (law05_KernNeeds_r2_p n_ in_ at_) (fun y1332 : (Int × Int × Int × Int × Int) => (Option.bind (law05_KernNeeds_r3_p n_ in_ at_) (fun y1664 : (Int × Int × Int × Int × Int) => (some (law05_KernNeeds_r4_p y1320 y1332 y1664))))))))
theorem law05_KernNeeds_is : stepS E cp80 ce4 3 [rA tsNode n_, rl tsI4 in_, rA tsI2 at_] = Option.bind (law05_KernNeeds n_ in_ at_) (fun y : Bool => some (rb y : R)) := by
  refine .trans ?_ (bind_b fun y1320 => (bind_b fun y1332 => (bind_b fun y1664 => some_b)))
  refine (stepG_is (nt := 48) (regs := [(0, rA tsNode n_), (1, rl tsI4 in_), (2, rA tsI2 at_)])).trans ?_
  refine (pre2 (law05_KernNeeds_r1 n_ in_ at_ _)).trans (bind_g fun y1320 => ?_)
  refine (pre1 (law05_KernNeeds_r2 n_ in_ at_ y1320 _)).trans (bind_g fun y1332 => ?_)
  refine (pre1 (law05_KernNeeds_r3 n_ in_ at_ y1320 y1332 _)).trans (bind_g fun y1664 => ?_)
  refine (pre1 (law05_KernNeeds_r4 y1320 y1332 y1664 _)).trans ?_
  refine (ret_eq).trans ?_
  kernel_rfl
noncomputable def cp81 : CallP := withC cp80 3 [(.agg tsNode), (pL tsI4), (.agg tsI2)] (.one pB) (fun y : Bool => y) (fun x => law05_KernNeeds x.1 x.2.1 x.2.2.1)
theorem cp81_ok : PureOK E cp81 := conS eok cp80_ok ce4_ok fun x => Eq.mp (by kernel_rfl) (law05_KernNeeds_is x.1 x.2.1 x.2.2.1)
theorem law05_KernNeeds_walk (ht : law05_KernNeeds n_ in_ at_ = some true) (w : World) (vs : List Value) (hrd : ∀ γ : Gh, Free γ → rdRs w γ [argR true tsNode n_, argR false (.one (.sl tsI4)) in_, argR true tsI2 at_] vs) : Calls E.P 3 vs.toArray w fun e w' => e = .returned (.bool true) ∧ Below w.heap.size w w' :=
  walk_true (E := E) (stepS_ok eok cp80_ok ce4_ok) (show stepS E cp80 ce4 3 [rA tsNode n_, rl tsI4 in_, rA tsI2 at_] = some (.one (.g .bool true)) from by rw [law05_KernNeeds_is, ht]; rfl) w fun γ hγ => Eq.mp (by kernel_rfl) (hrd γ hγ)
end
section
variable {α β : Type} (n_ : Node) (in_ : (List I4)) (at_ : A9) (y1666 : Bool) (y1667 : (List I4)) (y1668 : Node) (y1669 : (I4 × Int)) (y1672 : (I4 × Int)) (y1675 : Int) (y1676 : (I4 × Int)) (s1965 : Int) (s2060 : (Int × Int × Int)) (y2063 : (I4 × Int)) (y2067 : Int) (y2069 : (Int × Int)) (y2070 : (Int × Int × Int × Int)) (y2072 : (Int × Int × Int)) (k : St → Option α) (q : Kont α)
noncomputable abbrev C85 := codeOf E.P 4
noncomputable abbrev P85 := @preK α E 4 cp81 ce4
noncomputable abbrev R85 := @runCode α E 4 cp81 ce4
noncomputable abbrev Q85 := @seqC α E 4 cp81 ce4
abbrev S85_0 : St := ⟨[(1, rl tsI4 in_), (3, rF 0), (5, rC tsA9 at_), (7, rb y1666)], [(tsNode.leaves n_)], [], 152⟩
theorem law05_KernMore_r1 : P85 2 C85 ⟨[(0, rA tsNode n_), (1, rl tsI4 in_), (2, rA tsA9 at_)], [], [], 152⟩ k = Option.bind law05_shown fun y1666 : Bool => k (S85_0 n_ in_ at_ y1666) := by kernel_rfl
abbrev S85_1 : St := ⟨[(1, rl tsI4 y1667), (3, rF 0), (5, rC tsA9 at_), (7, rb y1666)], [(tsNode.leaves n_)], [], 152⟩
theorem law05_KernMore_r2 : P85 1 C85.r.r (S85_0 n_ in_ at_ y1666) k = Option.bind (law05_some in_) fun y1667 : (List I4) => k (S85_1 n_ at_ y1666 y1667) := by kernel_rfl
abbrev S85_2 : St := ⟨[(1, rl tsI4 y1667), (3, rF 0), (5, rC tsA9 at_), (7, rb y1666)], [(tsNode.leaves y1668)], [], 152⟩
theorem law05_KernMore_r3 : P85 1 C85.r.r.r (S85_1 n_ at_ y1666 y1667) k = Option.bind (law05_few n_) fun y1668 : Node => k (S85_2 at_ y1666 y1667 y1668) := by kernel_rfl
abbrev S85_3 : St := ⟨[(1, rl tsI4 y1667), (3, rF 0), (5, rC tsA9 at_), (7, rb y1666), (8, rF 1), (9, ri y1669.2)], [(tsNode.leaves y1668), (tsI4.leaves y1669.1)], [], 152⟩
theorem law05_KernMore_r4 : P85 1 C85.r.r.r.r (S85_2 at_ y1666 y1667 y1668) k = Option.bind (ref03_Value y1668 y1667) fun y1669 : (I4 × Int) => k (S85_3 at_ y1666 y1667 y1668 y1669) := by kernel_rfl
theorem law05_KernMore_f1000006 : P85 1 C85.r.r.r.r.r.l (S85_3 at_ y1666 y1667 y1668 y1669) k = k ⟨[(1, rl tsI4 y1667), (3, rF 0), (5, rC tsA9 at_), (7, rb y1666), (8, rF 1), (9, ri y1669.2), (34, rb (y1669.2 != 0))], [(tsNode.leaves y1668), (tsI4.leaves y1669.1)], [], 152⟩ := by kernel_rfl
theorem law05_KernMore_r6 : P85 1 C85.r.r.r.r.r.l.r.t (S85_3 at_ y1666 y1667 y1668 y1669) k = Option.bind (kern_Needs y1668 y1667 (0 : Int) (1 : Int)) fun y1672 : (I4 × Int) => k ⟨[(7, rb y1666), (9, ri y1669.2), (11, ri y1672.2)], [[], [], []], [], 152⟩ := by kernel_rfl
def law05_KernMore_r7_q (K : Bool → β) : β := (bif y1666 then (K (y1672.2 == y1669.2)) else (K false))
def law05_KernMore_r7_p : Bool := law05_KernMore_r7_q y1666 y1669 y1672 (fun y => y)
theorem law05_KernMore_r7_n (K : Bool → β) : law05_KernMore_r7_q y1666 y1669 y1672 K = K (law05_KernMore_r7_p y1666 y1669 y1672) := (bif_k K rfl rfl)
theorem law05_KernMore_r7 : P85 1 C85.r.r.r.r.r.l.r.t.r ⟨[(7, rb y1666), (9, ri y1669.2), (11, ri y1672.2)], [[], [], []], [], 152⟩ k = k ⟨[(6, rb (law05_KernMore_r7_p y1666 y1669 y1672))], [[], [], []], [], 152⟩ := Eq.trans (by kernel_rfl) (law05_KernMore_r7_n y1666 y1669 y1672 (fun y1673 : Bool => k ⟨[(6, rb y1673)], [[], [], []], [], 152⟩))
def law05_KernMore_r8_p : Option Unit := (bif (y1669.1.1 == 0) then none else (some ()))
abbrev S85_4 : St := ⟨[(1, rl tsI4 y1667), (3, rF 0), (5, rC tsA9 at_), (7, rb y1666), (8, rF 1)], [(tsNode.leaves y1668), (tsI4.leaves y1669.1)], [], 152⟩
abbrev S85_5 : St := ⟨[(1, rl tsI4 y1667), (3, rF 0), (5, rC tsA9 at_), (7, rb y1666), (8, rF 1), (12, ri (Int.tmod (IntKind.wrap .i64 at_.1) y1669.1.1))], [(tsNode.leaves y1668), (tsI4.leaves y1669.1)], [], 152⟩
theorem law05_KernMore_r8 : P85 1 C85.r.r.r.r.r.r (S85_4 at_ y1666 y1667 y1668 y1669) k = Option.bind (law05_KernMore_r8_p y1669) (fun y1674 : Unit => k (S85_5 at_ y1666 y1667 y1668 y1669)) := .trans (by kernel_rfl) (bif_b none_b some_b)
def law05_KernMore_r9_p : Option Int := (bif ((IntKind.wrap .i64 (y1669.1.1 - (Int.tmod (IntKind.wrap .i64 at_.1) y1669.1.1))) == 0) then none else (some (IntKind.wrap .i64 ((1 : Int) + (Int.tmod (IntKind.wrap .i64 at_.2) (IntKind.wrap .i64 (y1669.1.1 - (Int.tmod (IntKind.wrap .i64 at_.1) y1669.1.1))))))))
abbrev S85_6 : St := ⟨[(1, rl tsI4 y1667), (3, rF 0), (7, rb y1666), (12, ri (Int.tmod (IntKind.wrap .i64 at_.1) y1669.1.1)), (13, ri y1675)], [(tsNode.leaves y1668), []], [], 152⟩
theorem law05_KernMore_r9 : P85 1 C85.r.r.r.r.r.r.r (S85_5 at_ y1666 y1667 y1668 y1669) k = Option.bind (law05_KernMore_r9_p at_ y1669) (fun y1675 : Int => k (S85_6 at_ y1666 y1667 y1668 y1669 y1675)) := .trans (by kernel_rfl) (bif_b none_b some_b)
abbrev S85_7 : St := ⟨[(1, rl tsI4 y1667), (3, rF 0), (7, rb y1666), (12, ri (Int.tmod (IntKind.wrap .i64 at_.1) y1669.1.1)), (13, ri y1675), (14, rF 2), (15, ri y1676.2)], [(tsNode.leaves y1668), [], (tsI4.leaves y1676.1)], [], 152⟩
theorem law05_KernMore_r10 : P85 1 C85.r.r.r.r.r.r.r.r (S85_6 at_ y1666 y1667 y1668 y1669 y1675) k = Option.bind (kern_Needs y1668 y1667 (Int.tmod (IntKind.wrap .i64 at_.1) y1669.1.1) y1675) fun y1676 : (I4 × Int) => k (S85_7 at_ y1666 y1667 y1668 y1669 y1675 y1676) := by kernel_rfl
theorem law05_KernMore_f1000012 : P85 1 C85.r.r.r.r.r.r.r.r.r.l (S85_7 at_ y1666 y1667 y1668 y1669 y1675 y1676) k = k ⟨[(1, rl tsI4 y1667), (3, rF 0), (7, rb y1666), (12, ri (Int.tmod (IntKind.wrap .i64 at_.1) y1669.1.1)), (13, ri y1675), (14, rF 2), (73, rb (y1676.2 != 0))], [(tsNode.leaves y1668), [], (tsI4.leaves y1676.1)], [], 152⟩ := by kernel_rfl
abbrev S85_8 : St := ⟨[(1, rl tsI4 y1667), (3, rF 0), (7, rb y1666), (12, ri (Int.tmod (IntKind.wrap .i64 at_.1) y1669.1.1)), (13, ri y1675), (14, rF 2)], [(tsNode.leaves y1668), [], (tsI4.leaves y1676.1)], [], 152⟩
abbrev S85_9 : St := ⟨[(6, rb false)], [[], [], []], [], 152⟩
theorem law05_KernMore_fz : P85 1 C85.r.r.r.r.r.r.r.r.r.l.r.t (S85_8 at_ y1666 y1667 y1668 y1669 y1675 y1676) k = k S85_9 := by kernel_rfl
abbrev S85_10 : St := ⟨[(1, rl tsI4 y1667), (3, rF 0), (7, rb y1666), (12, ri (Int.tmod (IntKind.wrap .i64 at_.1) y1669.1.1)), (13, ri y1675), (14, rF 2), (16, ri 0)], [(tsNode.leaves y1668), [], (tsI4.leaves y1676.1)], [], 152⟩
theorem law05_KernMore_f14 : P85 1 C85.r.r.r.r.r.r.r.r.r.r.l (S85_8 at_ y1666 y1667 y1668 y1669 y1675 y1676) k = k (S85_10 at_ y1666 y1667 y1668 y1669 y1675 y1676) := by kernel_rfl
def law05_KernMore_r14_q (K : Bool → β) : β := (bif (decide (s1965 < (y1667.length : Int))) then (K (decide (s1965 < 2))) else (K false))
def law05_KernMore_r14_p : Bool := law05_KernMore_r14_q y1667 s1965 (fun y => y)
theorem law05_KernMore_r14_n (K : Bool → β) : law05_KernMore_r14_q y1667 s1965 K = K (law05_KernMore_r14_p y1667 s1965) := (bif_k K rfl rfl)
abbrev S85_11 : St := ⟨[(1, rl tsI4 y1667), (3, rF 0), (7, rb y1666), (12, ri (Int.tmod (IntKind.wrap .i64 at_.1) y1669.1.1)), (13, ri y1675), (14, rF 2), (16, ri s1965)], [(tsNode.leaves y1668), [], (tsI4.leaves y1676.1)], [], 152⟩
theorem law05_KernMore_r14 : P85 1 C85.r.r.r.r.r.r.r.r.r.r.l.r.b.b.l (S85_11 at_ y1666 y1667 y1668 y1669 y1675 y1676 s1965) k = k ⟨[(1, rl tsI4 y1667), (3, rF 0), (7, rb y1666), (12, ri (Int.tmod (IntKind.wrap .i64 at_.1) y1669.1.1)), (13, ri y1675), (14, rF 2), (16, ri s1965), (81, rb (law05_KernMore_r14_p y1667 s1965))], [(tsNode.leaves y1668), [], (tsI4.leaves y1676.1)], [], 152⟩ := Eq.trans (by kernel_rfl) (law05_KernMore_r14_n y1667 s1965 (fun y1967 : Bool => k ⟨[(1, rl tsI4 y1667), (3, rF 0), (7, rb y1666), (12, ri (Int.tmod (IntKind.wrap .i64 at_.1) y1669.1.1)), (13, ri y1675), (14, rF 2), (16, ri s1965), (81, rb y1967)], [(tsNode.leaves y1668), [], (tsI4.leaves y1676.1)], [], 152⟩))
abbrev S85_12 : St := ⟨[(1, rl tsI4 y1667), (3, rF 0), (7, rb y1666), (12, ri (Int.tmod (IntKind.wrap .i64 at_.1) y1669.1.1)), (13, ri y1675), (14, rF 2), (16, ri s1965), (17, ri 99), (18, ri 0)], [(tsNode.leaves y1668), [], (tsI4.leaves y1676.1)], [], 152⟩
theorem law05_KernMore_f18 : P85 2 C85.r.r.r.r.r.r.r.r.r.r.l.r.b.b.r.l.b (S85_11 at_ y1666 y1667 y1668 y1669 y1675 y1676 s1965) k = k (S85_12 at_ y1666 y1667 y1668 y1669 y1675 y1676 s1965) := by kernel_rfl
abbrev S85_13 : St := ⟨[(1, rl tsI4 y1667), (3, rF 0), (7, rb y1666), (12, ri (Int.tmod (IntKind.wrap .i64 at_.1) y1669.1.1)), (13, ri y1675), (14, rF 2), (16, ri s1965), (17, ri 99), (18, ri 0), (19, ri (Int.tmod (IntKind.wrap .i64 at_.1) y1669.1.1))], [(tsNode.leaves y1668), [], (tsI4.leaves y1676.1)], [], 152⟩
theorem law05_KernMore_f19 : P85 1 C85.r.r.r.r.r.r.r.r.r.r.l.r.b.b.r.l.b.r.r.l (S85_12 at_ y1666 y1667 y1668 y1669 y1675 y1676 s1965) k = k (S85_13 at_ y1666 y1667 y1668 y1669 y1675 y1676 s1965) := by kernel_rfl
def law05_KernMore_r19_q (K : Bool → β) : β := (K (decide (s2060.2.2 < (IntKind.wrap .i64 ((Int.tmod (IntKind.wrap .i64 at_.1) y1669.1.1) + y1675)))))
def law05_KernMore_r19_p : Bool := law05_KernMore_r19_q at_ y1669 y1675 s2060 (fun y => y)
theorem law05_KernMore_r19_n (K : Bool → β) : law05_KernMore_r19_q at_ y1669 y1675 s2060 K = K (law05_KernMore_r19_p at_ y1669 y1675 s2060) := rfl
abbrev S85_14 : St := ⟨[(1, rl tsI4 y1667), (3, rF 0), (7, rb y1666), (12, ri (Int.tmod (IntKind.wrap .i64 at_.1) y1669.1.1)), (13, ri y1675), (14, rF 2), (16, ri s1965), (17, ri s2060.1), (18, ri s2060.2.1), (19, ri s2060.2.2)], [(tsNode.leaves y1668), [], (tsI4.leaves y1676.1)], [], 152⟩
theorem law05_KernMore_r19 : P85 1 C85.r.r.r.r.r.r.r.r.r.r.l.r.b.b.r.l.b.r.r.l.r.b.b.l (S85_14 at_ y1666 y1667 y1668 y1669 y1675 y1676 s1965 s2060) k = k ⟨[(1, rl tsI4 y1667), (3, rF 0), (7, rb y1666), (12, ri (Int.tmod (IntKind.wrap .i64 at_.1) y1669.1.1)), (13, ri y1675), (14, rF 2), (16, ri s1965), (17, ri s2060.1), (18, ri s2060.2.1), (19, ri s2060.2.2), (89, rb (law05_KernMore_r19_p at_ y1669 y1675 s2060))], [(tsNode.leaves y1668), [], (tsI4.leaves y1676.1)], [], 152⟩ := Eq.trans (by kernel_rfl) (law05_KernMore_r19_n at_ y1669 y1675 s2060 (fun y2062 : Bool => k ⟨[(1, rl tsI4 y1667), (3, rF 0), (7, rb y1666), (12, ri (Int.tmod (IntKind.wrap .i64 at_.1) y1669.1.1)), (13, ri y1675), (14, rF 2), (16, ri s1965), (17, ri s2060.1), (18, ri s2060.2.1), (19, ri s2060.2.2), (89, rb y2062)], [(tsNode.leaves y1668), [], (tsI4.leaves y1676.1)], [], 152⟩))
abbrev S85_15 : St := ⟨[(1, rl tsI4 y1667), (3, rF 0), (7, rb y1666), (12, ri (Int.tmod (IntKind.wrap .i64 at_.1) y1669.1.1)), (13, ri y1675), (14, rF 2), (16, ri s1965), (17, ri s2060.1), (18, ri s2060.2.1), (19, ri s2060.2.2), (20, rF 3), (21, ri y2063.2)], [(tsNode.leaves y1668), [], (tsI4.leaves y1676.1), (tsI4.leaves y2063.1)], [], 152⟩
theorem law05_KernMore_r21 : P85 1 C85.r.r.r.r.r.r.r.r.r.r.l.r.b.b.r.l.b.r.r.l.r.b.b.r.l.b (S85_14 at_ y1666 y1667 y1668 y1669 y1675 y1676 s1965 s2060) k = Option.bind (kern_Needs y1668 y1667 s2060.2.2 (1 : Int)) fun y2063 : (I4 × Int) => k (S85_15 at_ y1666 y1667 y1668 y1669 y1675 y1676 s1965 s2060 y2063) := by kernel_rfl
def law05_KernMore_r22_p : Option Bool := (bif (y2063.2 != 0) then (some true) else (bif (s1965 == 0) then (bif (decide (y2063.1.1 < 0)) then (some true) else (bif (s1965 == 0) then (bif (decide ((0 : Int) ≤ s1965)) then (bif (decide (s1965 < (y1667.length : Int))) then (some (decide (y2063.1.2.1 > ((gt y1667 s1965 dI4).1)))) else none) else none) else (bif (s1965 == 1) then (bif (decide ((0 : Int) ≤ s1965)) then (bif (decide (s1965 < (y1667.length : Int))) then (some (decide (y2063.1.2.2.2 > ((gt y1667 s1965 dI4).1)))) else none) else none) else none))) else (bif (s1965 == 1) then (bif (decide (y2063.1.2.2.1 < 0)) then (some true) else (bif (s1965 == 0) then (bif (decide ((0 : Int) ≤ s1965)) then (bif (decide (s1965 < (y1667.length : Int))) then (some (decide (y2063.1.2.1 > ((gt y1667 s1965 dI4).1)))) else none) else none) else (bif (s1965 == 1) then (bif (decide ((0 : Int) ≤ s1965)) then (bif (decide (s1965 < (y1667.length : Int))) then (some (decide (y2063.1.2.2.2 > ((gt y1667 s1965 dI4).1)))) else none) else none) else none))) else none)))
theorem law05_KernMore_r22 : P85 1 C85.r.r.r.r.r.r.r.r.r.r.l.r.b.b.r.l.b.r.r.l.r.b.b.r.l.b.r.l (S85_15 at_ y1666 y1667 y1668 y1669 y1675 y1676 s1965 s2060 y2063) k = Option.bind (law05_KernMore_r22_p y1667 s1965 y2063) (fun y2065 : Bool => k ⟨[(1, rl tsI4 y1667), (3, rF 0), (7, rb y1666), (12, ri (Int.tmod (IntKind.wrap .i64 at_.1) y1669.1.1)), (13, ri y1675), (14, rF 2), (16, ri s1965), (17, ri s2060.1), (18, ri s2060.2.1), (19, ri s2060.2.2), (20, rF 3), (120, rb y2065)], [(tsNode.leaves y1668), [], (tsI4.leaves y1676.1), (tsI4.leaves y2063.1)], [], 152⟩) := .trans (by kernel_rfl) (bif_b some_b (bif_b (bif_b some_b (bif_b (bif_b (bif_b some_b none_b) none_b) (bif_b (bif_b (bif_b some_b none_b) none_b) none_b))) (bif_b (bif_b some_b (bif_b (bif_b (bif_b some_b none_b) none_b) (bif_b (bif_b (bif_b some_b none_b) none_b) none_b))) none_b)))
abbrev S85_16 : St := ⟨[(1, rl tsI4 y1667), (3, rF 0), (7, rb y1666), (12, ri (Int.tmod (IntKind.wrap .i64 at_.1) y1669.1.1)), (13, ri y1675), (14, rF 2), (16, ri s1965), (17, ri s2060.1), (18, ri s2060.2.1), (19, ri s2060.2.2), (20, rF 3)], [(tsNode.leaves y1668), [], (tsI4.leaves y1676.1), (tsI4.leaves y2063.1)], [], 152⟩
abbrev S85_17 : St := ⟨[(6, rb false)], [[], [], [], []], [], 152⟩
theorem law05_KernMore_fzx1 : P85 1 C85.r.r.r.r.r.r.r.r.r.r.l.r.b.b.r.l.b.r.r.l.r.b.b.r.l.b.r.l.r.t (S85_16 at_ y1666 y1667 y1668 y1669 y1675 y1676 s1965 s2060 y2063) k = k S85_17 := by kernel_rfl
def law05_KernMore_r24_p : Option Bool := (bif (s1965 == 0) then (bif (s1965 == 0) then (some (decide (y2063.1.1 < y2063.1.2.1))) else (bif (s1965 == 1) then (some (decide (y2063.1.1 < y2063.1.2.2.2))) else none)) else (bif (s1965 == 1) then (bif (s1965 == 0) then (some (decide (y2063.1.2.2.1 < y2063.1.2.1))) else (bif (s1965 == 1) then (some (decide (y2063.1.2.2.1 < y2063.1.2.2.2))) else none)) else none))
theorem law05_KernMore_r24 : P85 1 C85.r.r.r.r.r.r.r.r.r.r.l.r.b.b.r.l.b.r.r.l.r.b.b.r.l.b.r.r (S85_16 at_ y1666 y1667 y1668 y1669 y1675 y1676 s1965 s2060 y2063) k = Option.bind (law05_KernMore_r24_p s1965 y2063) (fun y2066 : Bool => k ⟨[(1, rl tsI4 y1667), (3, rF 0), (7, rb y1666), (12, ri (Int.tmod (IntKind.wrap .i64 at_.1) y1669.1.1)), (13, ri y1675), (14, rF 2), (16, ri s1965), (17, ri s2060.1), (18, ri s2060.2.1), (19, ri s2060.2.2), (20, rF 3), (129, rb y2066)], [(tsNode.leaves y1668), [], (tsI4.leaves y1676.1), (tsI4.leaves y2063.1)], [], 152⟩) := .trans (by kernel_rfl) (bif_b (bif_b some_b (bif_b some_b none_b)) (bif_b (bif_b some_b (bif_b some_b none_b)) none_b))
def law05_KernMore_r25_p : Option Int := (bif (s1965 == 0) then (some (min s2060.1 y2063.1.1)) else (bif (s1965 == 1) then (some (min s2060.1 y2063.1.2.2.1)) else none))
abbrev S85_18 : St := ⟨[(1, rl tsI4 y1667), (3, rF 0), (7, rb y1666), (12, ri (Int.tmod (IntKind.wrap .i64 at_.1) y1669.1.1)), (13, ri y1675), (14, rF 2), (16, ri s1965), (17, ri y2067), (18, ri s2060.2.1), (19, ri s2060.2.2), (20, rF 3)], [(tsNode.leaves y1668), [], (tsI4.leaves y1676.1), (tsI4.leaves y2063.1)], [], 152⟩
theorem law05_KernMore_r25 : P85 1 C85.r.r.r.r.r.r.r.r.r.r.l.r.b.b.r.l.b.r.r.l.r.b.b.r.l.b.r.r.r.t (S85_16 at_ y1666 y1667 y1668 y1669 y1675 y1676 s1965 s2060 y2063) k = Option.bind (law05_KernMore_r25_p s1965 s2060 y2063) (fun y2067 : Int => k (S85_18 at_ y1666 y1667 y1668 y1669 y1675 y1676 s1965 s2060 y2063 y2067)) := .trans (by kernel_rfl) (bif_b some_b (bif_b some_b none_b))
def law05_KernMore_r26_p : Option Int := (bif (s1965 == 0) then (some (max s2060.2.1 y2063.1.2.1)) else (bif (s1965 == 1) then (some (max s2060.2.1 y2063.1.2.2.2)) else none))
abbrev S85_19 (y2068 : Int) : St := ⟨[(1, rl tsI4 y1667), (3, rF 0), (7, rb y1666), (12, ri (Int.tmod (IntKind.wrap .i64 at_.1) y1669.1.1)), (13, ri y1675), (14, rF 2), (16, ri s1965), (17, ri y2067), (18, ri y2068), (19, ri s2060.2.2)], [(tsNode.leaves y1668), [], (tsI4.leaves y1676.1), []], [], 152⟩
theorem law05_KernMore_r26 : R85 C85.r.r.r.r.r.r.r.r.r.r.l.r.b.b.r.l.b.r.r.l.r.b.b.r.l.b.r.r.r.t.r (S85_18 at_ y1666 y1667 y1668 y1669 y1675 y1676 s1965 s2060 y2063 y2067) q = Option.bind (law05_KernMore_r26_p s1965 s2060 y2063) (fun y2068 : Int => q .normal (S85_19 at_ y1666 y1667 y1668 y1669 y1675 y1676 s1965 s2060 y2067 y2068)) := .trans (by kernel_rfl) (bif_b some_b (bif_b some_b none_b))
def law05_KernMore_j21_p : Option ((Int × Int) ⊕ ((Int × Int × Int × Int) ⊕ Unit)) := (Option.bind (kern_Needs y1668 y1667 s2060.2.2 (1 : Int)) (fun y2063 : (I4 × Int) => (Option.bind (law05_KernMore_r22_p y1667 s1965 y2063) (fun y2065 : Bool => (bif y2065 then (some (Sum.inr (Sum.inr ()))) else (Option.bind (law05_KernMore_r24_p s1965 y2063) (fun y2066 : Bool => (bif y2066 then (Option.bind (law05_KernMore_r25_p s1965 s2060 y2063) (fun y2067 : Int => (Option.bind (law05_KernMore_r26_p s1965 s2060 y2063) (fun y2068 : Int => (some (Sum.inl (y2067, y2068))))))) else (some (Sum.inr (Sum.inl y2063.1)))))))))))
abbrev S85_20 : St := ⟨[(1, rl tsI4 y1667), (3, rF 0), (7, rb y1666), (12, ri (Int.tmod (IntKind.wrap .i64 at_.1) y1669.1.1)), (13, ri y1675), (14, rF 2), (16, ri s1965), (17, ri y2069.1), (18, ri y2069.2), (19, ri s2060.2.2)], [(tsNode.leaves y1668), [], (tsI4.leaves y1676.1), []], [], 152⟩
abbrev S85_21 : St := ⟨[(1, rl tsI4 y1667), (3, rF 0), (7, rb y1666), (12, ri (Int.tmod (IntKind.wrap .i64 at_.1) y1669.1.1)), (13, ri y1675), (14, rF 2), (16, ri s1965), (17, ri s2060.1), (18, ri s2060.2.1), (19, ri s2060.2.2)], [(tsNode.leaves y1668), [], (tsI4.leaves y1676.1), (tsI4.leaves y2070)], [], 152⟩
theorem law05_KernMore_j21 : R85 C85.r.r.r.r.r.r.r.r.r.r.l.r.b.b.r.l.b.r.r.l.r.b.b.r.l (S85_14 at_ y1666 y1667 y1668 y1669 y1675 y1676 s1965 s2060) (Q85 C85.r.r.r.r.r.r.r.r.r.r.l.r.b.b.r.l.b.r.r.l.r.b.b.r.r q) = Option.bind (law05_KernMore_j21_p y1667 y1668 s1965 s2060) (either (fun y2069 : (Int × Int) => R85 C85.r.r.r.r.r.r.r.r.r.r.l.r.b.b.r.l.b.r.r.l.r.b.b.r.r (S85_20 at_ y1666 y1667 y1668 y1669 y1675 y1676 s1965 s2060 y2069) q) (either (fun y2070 : (Int × Int × Int × Int) => R85 C85.r.r.r.r.r.r.r.r.r.r.l.r.b.b.r.l.b.r.r.l.r.b.b.r.r (S85_21 at_ y1666 y1667 y1668 y1669 y1675 y1676 s1965 s2060 y2070) q) (fun y2071 : Unit => q .ret S85_17))) := by
  refine .trans ?_ (bind_b fun y2063 => (bind_b fun y2065 => (bif_b e3_2 (bind_b fun y2066 => (bif_b (bind_b fun y2067 => (bind_b fun y2068 => e3_0)) e3_1)))))
  refine (block_push (id := 3)).trans ?_
  refine (pre1 (law05_KernMore_r21 at_ y1666 y1667 y1668 y1669 y1675 y1676 s1965 s2060 _)).trans (bind_g fun y2063 => ?_)
  refine .trans seq_push ?_
  refine (pre1 (law05_KernMore_r22 at_ y1666 y1667 y1668 y1669 y1675 y1676 s1965 s2060 y2063 _)).trans (bind_g fun y2065 => ?_)
  refine (cond_e (b := y2065) (st' := (S85_16 at_ y1666 y1667 y1668 y1669 y1675 y1676 s1965 s2060 y2063)) ).trans (bif_g ?_ ?_)
  · refine (pre1 (law05_KernMore_fzx1 at_ y1666 y1667 y1668 y1669 y1675 y1676 s1965 s2060 y2063 _)).trans ?_
    refine (ret_eq).trans ?_
    refine seqC_ret.trans ?_
    refine block_ret.trans ?_
    refine seqC_ret.trans ?_
    kernel_rfl
  · refine (skip_eq).trans ?_
    refine (seqC_normal (st' := (S85_16 at_ y1666 y1667 y1668 y1669 y1675 y1676 s1965 s2060 y2063))).trans ?_
    refine (pre1 (law05_KernMore_r24 at_ y1666 y1667 y1668 y1669 y1675 y1676 s1965 s2060 y2063 _)).trans (bind_g fun y2066 => ?_)
    refine (cond_e (b := y2066) (st' := (S85_16 at_ y1666 y1667 y1668 y1669 y1675 y1676 s1965 s2060 y2063)) ).trans (bif_g ?_ ?_)
    · refine (pre1 (law05_KernMore_r25 at_ y1666 y1667 y1668 y1669 y1675 y1676 s1965 s2060 y2063 _)).trans (bind_g fun y2067 => ?_)
      refine (law05_KernMore_r26 at_ y1666 y1667 y1668 y1669 y1675 y1676 s1965 s2060 y2063 y2067 _).trans (bind_g fun y2068 => ?_)
      refine block_normal.trans ?_
      refine (seqC_normal (st' := (S85_19 at_ y1666 y1667 y1668 y1669 y1675 y1676 s1965 s2060 y2067 y2068))).trans ?_
      kernel_rfl
    · refine (skip_eq).trans ?_
      refine block_normal.trans ?_
      refine (seqC_normal (st' := ⟨[(1, rl tsI4 y1667), (3, rF 0), (7, rb y1666), (12, ri (Int.tmod (IntKind.wrap .i64 at_.1) y1669.1.1)), (13, ri y1675), (14, rF 2), (16, ri s1965), (17, ri s2060.1), (18, ri s2060.2.1), (19, ri s2060.2.2)], [(tsNode.leaves y1668), [], (tsI4.leaves y1676.1), (tsI4.leaves y2063.1)], [], 152⟩)).trans ?_
      kernel_rfl
theorem law05_KernMore_r20 : R85 C85.r.r.r.r.r.r.r.r.r.r.l.r.b.b.r.l.b.r.r.l.r.b.b.r.r (S85_20 at_ y1666 y1667 y1668 y1669 y1675 y1676 s1965 s2060 y2069) q = q .normal ⟨[(1, rl tsI4 y1667), (3, rF 0), (7, rb y1666), (12, ri (Int.tmod (IntKind.wrap .i64 at_.1) y1669.1.1)), (13, ri y1675), (14, rF 2), (16, ri s1965), (17, ri y2069.1), (18, ri y2069.2), (19, ri (IntKind.wrap .i64 (s2060.2.2 + 1)))], [(tsNode.leaves y1668), [], (tsI4.leaves y1676.1), []], [], 152⟩ := by kernel_rfl
theorem law05_KernMore_r20x1 : R85 C85.r.r.r.r.r.r.r.r.r.r.l.r.b.b.r.l.b.r.r.l.r.b.b.r.r (S85_21 at_ y1666 y1667 y1668 y1669 y1675 y1676 s1965 s2060 y2070) q = q .normal ⟨[(1, rl tsI4 y1667), (3, rF 0), (7, rb y1666), (12, ri (Int.tmod (IntKind.wrap .i64 at_.1) y1669.1.1)), (13, ri y1675), (14, rF 2), (16, ri s1965), (17, ri s2060.1), (18, ri s2060.2.1), (19, ri (IntKind.wrap .i64 (s2060.2.2 + 1)))], [(tsNode.leaves y1668), [], (tsI4.leaves y1676.1), (tsI4.leaves y2070)], [], 152⟩ := by kernel_rfl
def law05_KernMore_l19_p : Option ((Int × Int × Int) ⊕ ((Int × Int × Int) ⊕ Unit)) := (bif (law05_KernMore_r19_p at_ y1669 y1675 s2060) then (Option.bind (law05_KernMore_j21_p y1667 y1668 s1965 s2060) (either (fun y2069 : (Int × Int) => (some (Sum.inl (y2069.1, y2069.2, (IntKind.wrap .i64 (s2060.2.2 + 1)))))) (either (fun y2070 : (Int × Int × Int × Int) => (some (Sum.inl (s2060.1, s2060.2.1, (IntKind.wrap .i64 (s2060.2.2 + 1)))))) (fun y2071 : Unit => (some (Sum.inr (Sum.inr ()))))))) else (some (Sum.inr (Sum.inl s2060))))
abbrev S85_22 : St := ⟨[(1, rl tsI4 y1667), (3, rF 0), (7, rb y1666), (12, ri (Int.tmod (IntKind.wrap .i64 at_.1) y1669.1.1)), (13, ri y1675), (14, rF 2), (16, ri s1965), (17, ri y2072.1), (18, ri y2072.2.1), (19, ri y2072.2.2)], [(tsNode.leaves y1668), [], (tsI4.leaves y1676.1)], [], 152⟩
theorem law05_KernMore_l19_b : R85 C85.r.r.r.r.r.r.r.r.r.r.l.r.b.b.r.l.b.r.r.l.r.b.b (S85_14 at_ y1666 y1667 y1668 y1669 y1675 y1676 s1965 s2060) (loopKont 3 q) = Option.bind (law05_KernMore_l19_p at_ y1667 y1668 y1669 y1675 s1965 s2060) (either (fun y : (Int × Int × Int) => q .normal ⟨[(1, rl tsI4 y1667), (3, rF 0), (7, rb y1666), (12, ri (Int.tmod (IntKind.wrap .i64 at_.1) y1669.1.1)), (13, ri y1675), (14, rF 2), (16, ri s1965), (17, ri y.1), (18, ri y.2.1), (19, ri y.2.2)], [(tsNode.leaves y1668), [], (tsI4.leaves y1676.1)], [], 152⟩) (either (fun y2072 : (Int × Int × Int) => q (.exit 2) (S85_22 at_ y1666 y1667 y1668 y1669 y1675 y1676 s1965 y2072)) (fun y2073 : Unit => q .ret S85_17))) := by
  refine .trans ?_ (bif_b (bind_b (either_b (fun y2069 => e3_0) (either_b (fun y2070 => e3_0) (fun y2071 => e3_2)))) e3_1)
  refine .trans seq_push ?_
  refine (pre1 (law05_KernMore_r19 at_ y1666 y1667 y1668 y1669 y1675 y1676 s1965 s2060 _)).trans ?_
  refine (cond_e (b := (law05_KernMore_r19_p at_ y1669 y1675 s2060)) (st' := (S85_14 at_ y1666 y1667 y1668 y1669 y1675 y1676 s1965 s2060)) ).trans (bif_g ?_ ?_)
  · refine (skip_eq).trans ?_
    refine (seqC_normal (st' := (S85_14 at_ y1666 y1667 y1668 y1669 y1675 y1676 s1965 s2060))).trans ?_
    refine .trans seq_push ?_
    refine (law05_KernMore_j21 at_ y1666 y1667 y1668 y1669 y1675 y1676 s1965 s2060 _).trans (bind_g (either_g (fun y2069 => ?_) (either_g (fun y2070 => ?_) (fun y2071 => ?_))))
    · refine (law05_KernMore_r20 at_ y1666 y1667 y1668 y1669 y1675 y1676 s1965 s2060 y2069 _).trans ?_
      kernel_rfl
    · refine (law05_KernMore_r20x1 at_ y1666 y1667 y1668 y1669 y1675 y1676 s1965 s2060 y2070 _).trans ?_
      kernel_rfl
    · kernel_rfl
  · refine ((exit_eq (j := 2))).trans ?_
    refine seqC_exit.trans ?_
    kernel_rfl
theorem law05_KernMore_l19 : R85 C85.r.r.r.r.r.r.r.r.r.r.l.r.b.b.r.l.b.r.r.l.r.b (S85_13 at_ y1666 y1667 y1668 y1669 y1675 y1676 s1965) q = Option.bind (iterN (law05_KernMore_l19_p at_ y1667 y1668 y1669 y1675 s1965) LL ((99 : Int), (0 : Int), (Int.tmod (IntKind.wrap .i64 at_.1) y1669.1.1))) (either (fun y2072 : (Int × Int × Int) => q (.exit 2) (S85_22 at_ y1666 y1667 y1668 y1669 y1675 y1676 s1965 y2072)) (fun y2073 : Unit => q .ret S85_17)) :=
  Eq.trans (by kernel_rfl) (loop_iter2 (S := fun s2060 : (Int × Int × Int) => (S85_14 at_ y1666 y1667 y1668 y1669 y1675 y1676 s1965 s2060)) (Y1 := fun y2072 : (Int × Int × Int) => ((.exit 2), (S85_22 at_ y1666 y1667 y1668 y1669 y1675 y1676 s1965 y2072))) (Y2 := fun y2073 : Unit => (.ret, S85_17)) (fun s q => law05_KernMore_l19_b at_ y1666 y1667 y1668 y1669 y1675 y1676 s1965 s q) (fun z => rfl) (fun z => rfl) LL ((99 : Int), (0 : Int), (Int.tmod (IntKind.wrap .i64 at_.1) y1669.1.1)))
abbrev S85_23 : St := ⟨[(1, rl tsI4 y1667), (3, rF 0), (7, rb y1666), (12, ri (Int.tmod (IntKind.wrap .i64 at_.1) y1669.1.1)), (13, ri y1675), (14, rF 2), (16, ri s1965), (17, ri y2072.1), (18, ri y2072.2.1)], [(tsNode.leaves y1668), [], (tsI4.leaves y1676.1)], [], 152⟩
theorem law05_KernMore_f1000028 : P85 1 C85.r.r.r.r.r.r.r.r.r.r.l.r.b.b.r.l.b.r.r.r.l (S85_23 at_ y1666 y1667 y1668 y1669 y1675 y1676 s1965 y2072) k = k ⟨[(1, rl tsI4 y1667), (3, rF 0), (7, rb y1666), (12, ri (Int.tmod (IntKind.wrap .i64 at_.1) y1669.1.1)), (13, ri y1675), (14, rF 2), (16, ri s1965), (17, ri y2072.1), (18, ri y2072.2.1), (143, rb (y2072.2.1 == 0))], [(tsNode.leaves y1668), [], (tsI4.leaves y1676.1)], [], 152⟩ := by kernel_rfl
abbrev S85_24 : St := ⟨[(1, rl tsI4 y1667), (3, rF 0), (7, rb y1666), (12, ri (Int.tmod (IntKind.wrap .i64 at_.1) y1669.1.1)), (13, ri y1675), (14, rF 2), (16, ri s1965), (17, ri 0), (18, ri y2072.2.1)], [(tsNode.leaves y1668), [], (tsI4.leaves y1676.1)], [], 152⟩
theorem law05_KernMore_r28 : R85 C85.r.r.r.r.r.r.r.r.r.r.l.r.b.b.r.l.b.r.r.r.l.r.t (S85_23 at_ y1666 y1667 y1668 y1669 y1675 y1676 s1965 y2072) q = q .normal (S85_24 at_ y1666 y1667 y1668 y1669 y1675 y1676 s1965 y2072) := by kernel_rfl
def law05_KernMore_j27_q (K : Int → β) : β := (bif (y2072.2.1 == 0) then (K (0 : Int)) else (K y2072.1))
def law05_KernMore_j27_p : Int := law05_KernMore_j27_q y2072 (fun y => y)
theorem law05_KernMore_j27_n (K : Int → β) : law05_KernMore_j27_q y2072 K = K (law05_KernMore_j27_p y2072) := (bif_k K rfl rfl)
abbrev S85_25 : St := ⟨[(1, rl tsI4 y1667), (3, rF 0), (7, rb y1666), (12, ri (Int.tmod (IntKind.wrap .i64 at_.1) y1669.1.1)), (13, ri y1675), (14, rF 2), (16, ri s1965), (17, ri (law05_KernMore_j27_p y2072)), (18, ri y2072.2.1)], [(tsNode.leaves y1668), [], (tsI4.leaves y1676.1)], [], 152⟩
theorem law05_KernMore_j27 : R85 C85.r.r.r.r.r.r.r.r.r.r.l.r.b.b.r.l.b.r.r.r.l (S85_23 at_ y1666 y1667 y1668 y1669 y1675 y1676 s1965 y2072) (Q85 C85.r.r.r.r.r.r.r.r.r.r.l.r.b.b.r.l.b.r.r.r.r q) = R85 C85.r.r.r.r.r.r.r.r.r.r.l.r.b.b.r.l.b.r.r.r.r (S85_25 at_ y1666 y1667 y1668 y1669 y1675 y1676 s1965 y2072) q := by
  refine Eq.trans ?_ (law05_KernMore_j27_n y2072 (fun y2074 : Int => R85 C85.r.r.r.r.r.r.r.r.r.r.l.r.b.b.r.l.b.r.r.r.r ⟨[(1, rl tsI4 y1667), (3, rF 0), (7, rb y1666), (12, ri (Int.tmod (IntKind.wrap .i64 at_.1) y1669.1.1)), (13, ri y1675), (14, rF 2), (16, ri s1965), (17, ri y2074), (18, ri y2072.2.1)], [(tsNode.leaves y1668), [], (tsI4.leaves y1676.1)], [], 152⟩ q))
  unfold law05_KernMore_j27_q
  refine (pre1 (law05_KernMore_f1000028 at_ y1666 y1667 y1668 y1669 y1675 y1676 s1965 y2072 _)).trans ?_
  refine (cond_e (b := (y2072.2.1 == 0)) (st' := (S85_23 at_ y1666 y1667 y1668 y1669 y1675 y1676 s1965 y2072)) ).trans (bif_g ?_ ?_)
  · refine (law05_KernMore_r28 at_ y1666 y1667 y1668 y1669 y1675 y1676 s1965 y2072 _).trans ?_
    refine (seqC_normal (st' := (S85_24 at_ y1666 y1667 y1668 y1669 y1675 y1676 s1965 y2072))).trans ?_
    kernel_rfl
  · refine (skip_eq).trans ?_
    refine (seqC_normal (st' := (S85_23 at_ y1666 y1667 y1668 y1669 y1675 y1676 s1965 y2072))).trans ?_
    kernel_rfl
def law05_KernMore_r29_p : Option Bool := (bif (s1965 == 0) then (some (!((y1676.1.1 == (law05_KernMore_j27_p y2072)) && ((y1676.1.2.1 == y2072.2.1) && true)))) else (bif (s1965 == 1) then (some (!((y1676.1.2.2.1 == (law05_KernMore_j27_p y2072)) && ((y1676.1.2.2.2 == y2072.2.1) && true)))) else none))
theorem law05_KernMore_r29 : P85 1 C85.r.r.r.r.r.r.r.r.r.r.l.r.b.b.r.l.b.r.r.r.r (S85_25 at_ y1666 y1667 y1668 y1669 y1675 y1676 s1965 y2072) k = Option.bind (law05_KernMore_r29_p y1676 s1965 y2072) (fun y2075 : Bool => k ⟨[(1, rl tsI4 y1667), (3, rF 0), (7, rb y1666), (12, ri (Int.tmod (IntKind.wrap .i64 at_.1) y1669.1.1)), (13, ri y1675), (14, rF 2), (16, ri s1965), (150, rb y2075)], [(tsNode.leaves y1668), [], (tsI4.leaves y1676.1)], [], 152⟩) := .trans (by kernel_rfl) (bif_b some_b (bif_b some_b none_b))
theorem law05_KernMore_fzx2 : P85 1 C85.r.r.r.r.r.r.r.r.r.r.l.r.b.b.r.l.b.r.r.r.r.r.t (S85_11 at_ y1666 y1667 y1668 y1669 y1675 y1676 s1965) k = k S85_9 := by kernel_rfl
theorem law05_KernMore_r15 : R85 C85.r.r.r.r.r.r.r.r.r.r.l.r.b.b.r.r (S85_11 at_ y1666 y1667 y1668 y1669 y1675 y1676 s1965) q = q .normal ⟨[(1, rl tsI4 y1667), (3, rF 0), (7, rb y1666), (12, ri (Int.tmod (IntKind.wrap .i64 at_.1) y1669.1.1)), (13, ri y1675), (14, rF 2), (16, ri (IntKind.wrap .i64 (s1965 + 1)))], [(tsNode.leaves y1668), [], (tsI4.leaves y1676.1)], [], 152⟩ := by kernel_rfl
def law05_KernMore_l14_p : Option (Int ⊕ (Int ⊕ (Unit ⊕ Unit))) := (bif (law05_KernMore_r14_p y1667 s1965) then (Option.bind (iterN (law05_KernMore_l19_p at_ y1667 y1668 y1669 y1675 s1965) LL ((99 : Int), (0 : Int), (Int.tmod (IntKind.wrap .i64 at_.1) y1669.1.1))) (either (fun y2072 : (Int × Int × Int) => (Option.bind (law05_KernMore_r29_p y1676 s1965 y2072) (fun y2075 : Bool => (bif y2075 then (some (Sum.inr (Sum.inr (Sum.inl ())))) else (some (Sum.inl (IntKind.wrap .i64 (s1965 + 1)))))))) (fun y2073 : Unit => (some (Sum.inr (Sum.inr (Sum.inr ()))))))) else (some (Sum.inr (Sum.inl s1965))))
abbrev S85_26 (y2076 : Int) : St := ⟨[(1, rl tsI4 y1667), (3, rF 0), (7, rb y1666), (12, ri (Int.tmod (IntKind.wrap .i64 at_.1) y1669.1.1)), (13, ri y1675), (14, rF 2), (16, ri y2076)], [(tsNode.leaves y1668), [], (tsI4.leaves y1676.1)], [], 152⟩
theorem law05_KernMore_l14_b : R85 C85.r.r.r.r.r.r.r.r.r.r.l.r.b.b (S85_11 at_ y1666 y1667 y1668 y1669 y1675 y1676 s1965) (loopKont 3 q) = Option.bind (law05_KernMore_l14_p at_ y1667 y1668 y1669 y1675 y1676 s1965) (either (fun y : Int => q .normal ⟨[(1, rl tsI4 y1667), (3, rF 0), (7, rb y1666), (12, ri (Int.tmod (IntKind.wrap .i64 at_.1) y1669.1.1)), (13, ri y1675), (14, rF 2), (16, ri y)], [(tsNode.leaves y1668), [], (tsI4.leaves y1676.1)], [], 152⟩) (either (fun y2076 : Int => q (.exit 0) (S85_26 at_ y1666 y1667 y1668 y1669 y1675 y1676 y2076)) (either (fun y2077 : Unit => q .ret S85_9) (fun y2078 : Unit => q .ret S85_17)))) := by
  refine .trans ?_ (bif_b (bind_b (either_b (fun y2072 => (bind_b fun y2075 => (bif_b e4_2 e4_0))) (fun y2073 => e4_3))) e4_1)
  refine .trans seq_push ?_
  refine (pre1 (law05_KernMore_r14 at_ y1666 y1667 y1668 y1669 y1675 y1676 s1965 _)).trans ?_
  refine (cond_e (b := (law05_KernMore_r14_p y1667 s1965)) (st' := (S85_11 at_ y1666 y1667 y1668 y1669 y1675 y1676 s1965)) ).trans (bif_g ?_ ?_)
  · refine (skip_eq).trans ?_
    refine (seqC_normal (st' := (S85_11 at_ y1666 y1667 y1668 y1669 y1675 y1676 s1965))).trans ?_
    refine .trans seq_push ?_
    refine (block_push (id := 1)).trans ?_
    refine (pre2 (law05_KernMore_f18 at_ y1666 y1667 y1668 y1669 y1675 y1676 s1965 _)).trans ?_
    refine .trans seq_push ?_
    refine (pre1 (law05_KernMore_f19 at_ y1666 y1667 y1668 y1669 y1675 y1676 s1965 _)).trans ?_
    refine (block_push (id := 2)).trans ?_
    refine (law05_KernMore_l19 at_ y1666 y1667 y1668 y1669 y1675 y1676 s1965 _).trans (bind_g (either_g (fun y2072 => ?_) (fun y2073 => ?_)))
    · refine block_same.trans ?_
      refine (seqC_normal (st' := (S85_23 at_ y1666 y1667 y1668 y1669 y1675 y1676 s1965 y2072))).trans ?_
      refine .trans seq_push ?_
      refine (law05_KernMore_j27 at_ y1666 y1667 y1668 y1669 y1675 y1676 s1965 y2072 _).trans ?_
      refine (pre1 (law05_KernMore_r29 at_ y1666 y1667 y1668 y1669 y1675 y1676 s1965 y2072 _)).trans (bind_g fun y2075 => ?_)
      refine (cond_e (b := y2075) (st' := (S85_11 at_ y1666 y1667 y1668 y1669 y1675 y1676 s1965)) ).trans (bif_g ?_ ?_)
      · refine (pre1 (law05_KernMore_fzx2 at_ y1666 y1667 y1668 y1669 y1675 y1676 s1965 _)).trans ?_
        refine (ret_eq).trans ?_
        refine block_ret.trans ?_
        refine seqC_ret.trans ?_
        kernel_rfl
      · refine (skip_eq).trans ?_
        refine block_normal.trans ?_
        refine (seqC_normal (st' := (S85_11 at_ y1666 y1667 y1668 y1669 y1675 y1676 s1965))).trans ?_
        refine (law05_KernMore_r15 at_ y1666 y1667 y1668 y1669 y1675 y1676 s1965 _).trans ?_
        kernel_rfl
    · refine block_ret.trans ?_
      refine seqC_ret.trans ?_
      refine block_ret.trans ?_
      refine seqC_ret.trans ?_
      kernel_rfl
  · refine ((exit_eq (j := 0))).trans ?_
    refine seqC_exit.trans ?_
    kernel_rfl
theorem law05_KernMore_l14 : R85 C85.r.r.r.r.r.r.r.r.r.r.l.r.b (S85_10 at_ y1666 y1667 y1668 y1669 y1675 y1676) q = Option.bind (iterN (law05_KernMore_l14_p at_ y1667 y1668 y1669 y1675 y1676) LL (0 : Int)) (either (fun y2076 : Int => q (.exit 0) (S85_26 at_ y1666 y1667 y1668 y1669 y1675 y1676 y2076)) (either (fun y2077 : Unit => q .ret S85_9) (fun y2078 : Unit => q .ret S85_17))) :=
  Eq.trans (by kernel_rfl) (loop_iter3 (S := fun s1965 : Int => (S85_11 at_ y1666 y1667 y1668 y1669 y1675 y1676 s1965)) (Y1 := fun y2076 : Int => ((.exit 0), (S85_26 at_ y1666 y1667 y1668 y1669 y1675 y1676 y2076))) (Y2 := fun y2077 : Unit => (.ret, S85_9)) (Y3 := fun y2078 : Unit => (.ret, S85_17)) (fun s q => law05_KernMore_l14_b at_ y1666 y1667 y1668 y1669 y1675 y1676 s q) (fun z => rfl) (fun z => rfl) (fun z => rfl) LL (0 : Int))
theorem law05_KernMore_fzx3 : P85 1 C85.r.r.r.r.r.r.r.r.r.r.r ⟨[(7, rb y1666)], [(tsNode.leaves y1668), [], (tsI4.leaves y1676.1)], [], 152⟩ k = k ⟨[(6, rb y1666)], [(tsNode.leaves y1668), [], (tsI4.leaves y1676.1)], [], 152⟩ := by kernel_rfl
/-- quilt/quiltlaw05.KernMore -/
def law05_KernMore : Option Bool := (Option.bind law05_shown (fun y1666 : Bool => (Option.bind (law05_some in_) (fun y1667 : (List I4) => (Option.bind (law05_few n_) (fun y1668 : Node => (Option.bind (ref03_Value y1668 y1667) (fun y1669 : (I4 × Int) => (bif (y1669.2 != 0) then (Option.bind (kern_Needs y1668 y1667 (0 : Int) (1 : Int)) (fun y1672 : (I4 × Int) => (some (law05_KernMore_r7_p y1666 y1669 y1672)))) else (Option.bind (law05_KernMore_r8_p y1669) (fun y1674 : Unit => (Option.bind (law05_KernMore_r9_p at_ y1669) (fun y1675 : Int => (Option.bind (kern_Needs y1668 y1667 (Int.tmod (IntKind.wrap .i64 at_.1) y1669.1.1) y1675) (fun y1676 : (I4 × Int) => (bif (y1676.2 != 0) then (some false) else (Option.bind (iterN (law05_KernMore_l14_p at_ y1667 y1668 y1669 y1675 y1676) LL (0 : Int)) (either (fun y2076 : Int => (some y1666)) (either (fun y2077 : Unit => (some false)) (fun y2078 : Unit => (some false)))))))))))))))))))))
theorem law05_KernMore_is : stepS E cp81 ce4 4 [rA tsNode n_, rl tsI4 in_, rA tsA9 at_] = Option.bind (law05_KernMore n_ in_ at_) (fun y : Bool => some (rb y : R)) := by
  refine .trans ?_ (bind_b fun y1666 => (bind_b fun y1667 => (bind_b fun y1668 => (bind_b fun y1669 => (bif_b (bind_b fun y1672 => some_b) (bind_b fun y1674 => (bind_b fun y1675 => (bind_b fun y1676 => (bif_b some_b (bind_b (either_b (fun y2076 => some_b) (either_b (fun y2077 => some_b) (fun y2078 => some_b)))))))))))))
  refine (stepG_is (nt := 152) (regs := [(0, rA tsNode n_), (1, rl tsI4 in_), (2, rA tsA9 at_)])).trans ?_
  refine (pre2 (law05_KernMore_r1 n_ in_ at_ _)).trans (bind_g fun y1666 => ?_)
  refine (pre1 (law05_KernMore_r2 n_ in_ at_ y1666 _)).trans (bind_g fun y1667 => ?_)
  refine (pre1 (law05_KernMore_r3 n_ at_ y1666 y1667 _)).trans (bind_g fun y1668 => ?_)
  refine (pre1 (law05_KernMore_r4 at_ y1666 y1667 y1668 _)).trans (bind_g fun y1669 => ?_)
  refine .trans seq_push ?_
  refine (pre1 (law05_KernMore_f1000006 at_ y1666 y1667 y1668 y1669 _)).trans ?_
  refine (cond_e (b := (y1669.2 != 0)) (st' := (S85_3 at_ y1666 y1667 y1668 y1669)) ).trans (bif_g ?_ ?_)
  · refine (pre1 (law05_KernMore_r6 at_ y1666 y1667 y1668 y1669 _)).trans (bind_g fun y1672 => ?_)
    refine (pre1 (law05_KernMore_r7 y1666 y1669 y1672 _)).trans ?_
    refine (ret_eq).trans ?_
    refine seqC_ret.trans ?_
    kernel_rfl
  · refine (skip_eq).trans ?_
    refine (seqC_normal (st' := (S85_4 at_ y1666 y1667 y1668 y1669))).trans ?_
    refine (pre1 (law05_KernMore_r8 at_ y1666 y1667 y1668 y1669 _)).trans (bind_g fun y1674 => ?_)
    refine (pre1 (law05_KernMore_r9 at_ y1666 y1667 y1668 y1669 _)).trans (bind_g fun y1675 => ?_)
    refine (pre1 (law05_KernMore_r10 at_ y1666 y1667 y1668 y1669 y1675 _)).trans (bind_g fun y1676 => ?_)
    refine .trans seq_push ?_
    refine (pre1 (law05_KernMore_f1000012 at_ y1666 y1667 y1668 y1669 y1675 y1676 _)).trans ?_
    refine (cond_e (b := (y1676.2 != 0)) (st' := (S85_8 at_ y1666 y1667 y1668 y1669 y1675 y1676)) ).trans (bif_g ?_ ?_)
    · refine (pre1 (law05_KernMore_fz at_ y1666 y1667 y1668 y1669 y1675 y1676 _)).trans ?_
      refine (ret_eq).trans ?_
      refine seqC_ret.trans ?_
      kernel_rfl
    · refine (skip_eq).trans ?_
      refine (seqC_normal (st' := (S85_8 at_ y1666 y1667 y1668 y1669 y1675 y1676))).trans ?_
      refine .trans seq_push ?_
      refine (pre1 (law05_KernMore_f14 at_ y1666 y1667 y1668 y1669 y1675 y1676 _)).trans ?_
      refine (block_push (id := 0)).trans ?_
      refine (law05_KernMore_l14 at_ y1666 y1667 y1668 y1669 y1675 y1676 _).trans (bind_g (either_g (fun y2076 => ?_) (either_g (fun y2077 => ?_) (fun y2078 => ?_))))
      · refine block_same.trans ?_
        refine (seqC_normal (st' := ⟨[(7, rb y1666)], [(tsNode.leaves y1668), [], (tsI4.leaves y1676.1)], [], 152⟩)).trans ?_
        refine (pre1 (law05_KernMore_fzx3 y1666 y1668 y1676 _)).trans ?_
        refine (ret_eq).trans ?_
        kernel_rfl
      · refine block_ret.trans ?_
        refine seqC_ret.trans ?_
        kernel_rfl
      · refine block_ret.trans ?_
        refine seqC_ret.trans ?_
        kernel_rfl
noncomputable def cp82 : CallP := withC cp81 4 [(.agg tsNode), (pL tsI4), (.agg tsA9)] (.one pB) (fun y : Bool => y) (fun x => law05_KernMore x.1 x.2.1 x.2.2.1)
theorem cp82_ok : PureOK E cp82 := conS eok cp81_ok ce4_ok fun x => Eq.mp (by kernel_rfl) (law05_KernMore_is x.1 x.2.1 x.2.2.1)
theorem law05_KernMore_walk (ht : law05_KernMore n_ in_ at_ = some true) (w : World) (vs : List Value) (hrd : ∀ γ : Gh, Free γ → rdRs w γ [argR true tsNode n_, argR false (.one (.sl tsI4)) in_, argR true tsA9 at_] vs) : Calls E.P 4 vs.toArray w fun e w' => e = .returned (.bool true) ∧ Below w.heap.size w w' :=
  walk_true (E := E) (stepS_ok eok cp81_ok ce4_ok) (show stepS E cp81 ce4 4 [rA tsNode n_, rl tsI4 in_, rA tsA9 at_] = some (.one (.g .bool true)) from by rw [law05_KernMore_is, ht]; rfl) w fun γ hγ => Eq.mp (by kernel_rfl) (hrd γ hγ)
end
section
variable {α : Type} (v_ : I4) (l_ : (List Int)) (s2106 : ((List Int) × Int)) (y2111 : Int) (y2113 : ((List Int) × Int)) (k : St → Option α) (q : Kont α)
noncomputable abbrev C86 := codeOf E.P 46
noncomputable abbrev P86 := @preK α E 46 cp82 ce4
noncomputable abbrev R86 := @runCode α E 46 cp82 ce4
noncomputable abbrev Q86 := @seqC α E 46 cp82 ce4
abbrev S86_0 : St := ⟨[(1, rl (.one (.int .i8)) l_), (2, rC tsI4 v_), (5, .one (.ow (.one (.int .i8)) [] (.v 5)))], [], [], 31⟩
theorem law05_filled_f2 : P86 2 C86 ⟨[(0, rA tsI4 v_), (1, rl (.one (.int .i8)) l_)], [], [], 31⟩ k = k (S86_0 v_ l_) := by kernel_rfl
abbrev S86_1 : St := ⟨[(1, rl (.one (.int .i8)) l_), (2, rC tsI4 v_), (5, .one (.ow (.one (.int .i8)) [] (.v 5))), (6, ri 0)], [], [], 31⟩
theorem law05_filled_f3 : P86 1 C86.r.r.l (S86_0 v_ l_) k = k (S86_1 v_ l_) := by kernel_rfl
abbrev S86_2 : St := ⟨[(1, rl (.one (.int .i8)) l_), (2, rC tsI4 v_), (5, .one (.ow (.one (.int .i8)) s2106.1 (.v 5))), (6, ri s2106.2)], [], [], 31⟩
theorem law05_filled_fz : P86 1 C86.r.r.l.r.b.b.l (S86_2 v_ l_ s2106) k = k ⟨[(1, rl (.one (.int .i8)) l_), (2, rC tsI4 v_), (5, .one (.ow (.one (.int .i8)) s2106.1 (.v 5))), (6, ri s2106.2), (13, rb (decide (s2106.2 < (ref02_Size (v_.1, v_.2.1, v_.2.2.1)))))], [], [], 31⟩ := by kernel_rfl
abbrev S86_3 : St := ⟨[(1, rl (.one (.int .i8)) l_), (2, rC tsI4 v_), (5, .one (.ow (.one (.int .i8)) s2106.1 (.v 5))), (6, ri s2106.2), (7, rk .i8 (0 : Int))], [], [], 31⟩
theorem law05_filled_f6 : P86 1 C86.r.r.l.r.b.b.r.l.b (S86_2 v_ l_ s2106) k = k (S86_3 v_ l_ s2106) := by kernel_rfl
theorem law05_filled_f1000007 : P86 1 C86.r.r.l.r.b.b.r.l.b.r.l (S86_3 v_ l_ s2106) k = k ⟨[(1, rl (.one (.int .i8)) l_), (2, rC tsI4 v_), (5, .one (.ow (.one (.int .i8)) s2106.1 (.v 5))), (6, ri s2106.2), (7, rk .i8 (0 : Int)), (18, rb (decide ((l_.length : Int) > 0)))], [], [], 31⟩ := by kernel_rfl
def law05_filled_r7_p : Option Unit := (bif ((l_.length : Int) == 0) then none else (bif (decide ((0 : Int) ≤ (Int.tmod s2106.2 (l_.length : Int)))) then (bif (decide ((Int.tmod s2106.2 (l_.length : Int)) < (l_.length : Int))) then (some ()) else none) else none))
abbrev S86_4 : St := ⟨[(1, rl (.one (.int .i8)) l_), (2, rC tsI4 v_), (5, .one (.ow (.one (.int .i8)) s2106.1 (.v 5))), (6, ri s2106.2), (7, rk .i8 (gt l_ (Int.tmod s2106.2 (l_.length : Int)) (0 : Int)))], [], [], 31⟩
theorem law05_filled_r7 : R86 C86.r.r.l.r.b.b.r.l.b.r.l.r.t (S86_3 v_ l_ s2106) q = Option.bind (law05_filled_r7_p l_ s2106) (fun y2110 : Unit => q .normal (S86_4 v_ l_ s2106)) := .trans (by kernel_rfl) (bif_b none_b (bif_b (bif_b some_b none_b) none_b))
def law05_filled_j6_p : Option Int := (bif (decide ((l_.length : Int) > 0)) then (Option.bind (law05_filled_r7_p l_ s2106) (fun y2110 : Unit => (some (gt l_ (Int.tmod s2106.2 (l_.length : Int)) (0 : Int))))) else (some (0 : Int)))
abbrev S86_5 : St := ⟨[(1, rl (.one (.int .i8)) l_), (2, rC tsI4 v_), (5, .one (.ow (.one (.int .i8)) s2106.1 (.v 5))), (6, ri s2106.2), (7, rk .i8 y2111)], [], [], 31⟩
theorem law05_filled_j6 : R86 C86.r.r.l.r.b.b.r.l.b.r.l (S86_3 v_ l_ s2106) (Q86 C86.r.r.l.r.b.b.r.l.b.r.r q) = Option.bind (law05_filled_j6_p l_ s2106) (fun y2111 : Int => R86 C86.r.r.l.r.b.b.r.l.b.r.r (S86_5 v_ l_ s2106 y2111) q) := by
  refine .trans ?_ (bif_b (bind_b fun y2110 => some_b) some_b)
  refine (pre1 (law05_filled_f1000007 v_ l_ s2106 _)).trans ?_
  refine (cond_e (b := (decide ((l_.length : Int) > 0))) (st' := (S86_3 v_ l_ s2106)) ).trans (bif_g ?_ ?_)
  · refine (law05_filled_r7 v_ l_ s2106 _).trans (bind_g fun y2110 => ?_)
    refine (seqC_normal (st' := (S86_4 v_ l_ s2106))).trans ?_
    kernel_rfl
  · refine (skip_eq).trans ?_
    refine (seqC_normal (st' := (S86_3 v_ l_ s2106))).trans ?_
    kernel_rfl
def law05_filled_r8_p : Option Unit := (bif (decide (s2106.1.length + ([y2111] : List Int).length ≤ maxL)) then (some ()) else none)
abbrev S86_6 : St := ⟨[(1, rl (.one (.int .i8)) l_), (2, rC tsI4 v_), (5, .one (.ow (.one (.int .i8)) (s2106.1 ++ [y2111]) (.v 5))), (6, ri s2106.2)], [], [], 31⟩
theorem law05_filled_r8 : R86 C86.r.r.l.r.b.b.r.l.b.r.r (S86_5 v_ l_ s2106 y2111) q = Option.bind (law05_filled_r8_p s2106 y2111) (fun y2112 : Unit => q .normal (S86_6 v_ l_ s2106 y2111)) := .trans (by kernel_rfl) (bif_b some_b none_b)
theorem law05_filled_r4 : R86 C86.r.r.l.r.b.b.r.r (S86_6 v_ l_ s2106 y2111) q = q .normal ⟨[(1, rl (.one (.int .i8)) l_), (2, rC tsI4 v_), (5, .one (.ow (.one (.int .i8)) (s2106.1 ++ [y2111]) (.v 5))), (6, ri (IntKind.wrap .i64 (s2106.2 + 1)))], [], [], 31⟩ := by kernel_rfl
def law05_filled_l3_p : Option (((List Int) × Int) ⊕ ((List Int) × Int)) := (bif (decide (s2106.2 < (ref02_Size (v_.1, v_.2.1, v_.2.2.1)))) then (Option.bind (law05_filled_j6_p l_ s2106) (fun y2111 : Int => (Option.bind (law05_filled_r8_p s2106 y2111) (fun y2112 : Unit => (some (Sum.inl ((s2106.1 ++ [y2111]), (IntKind.wrap .i64 (s2106.2 + 1))))))))) else (some (Sum.inr s2106)))
abbrev S86_7 : St := ⟨[(1, rl (.one (.int .i8)) l_), (2, rC tsI4 v_), (5, .one (.ow (.one (.int .i8)) y2113.1 (.v 5))), (6, ri y2113.2)], [], [], 31⟩
theorem law05_filled_l3_b : R86 C86.r.r.l.r.b.b (S86_2 v_ l_ s2106) (loopKont 0 q) = Option.bind (law05_filled_l3_p v_ l_ s2106) (either (fun y : ((List Int) × Int) => q .normal ⟨[(1, rl (.one (.int .i8)) l_), (2, rC tsI4 v_), (5, .one (.ow (.one (.int .i8)) y.1 (.v 5))), (6, ri y.2)], [], [], 31⟩) (fun y2113 : ((List Int) × Int) => q (.exit 0) (S86_7 v_ l_ y2113))) := by
  refine .trans ?_ (bif_b (bind_b fun y2111 => (bind_b fun y2112 => e2_0)) e2_1)
  refine .trans seq_push ?_
  refine (pre1 (law05_filled_fz v_ l_ s2106 _)).trans ?_
  refine (cond_e (b := (decide (s2106.2 < (ref02_Size (v_.1, v_.2.1, v_.2.2.1))))) (st' := (S86_2 v_ l_ s2106)) ).trans (bif_g ?_ ?_)
  · refine (skip_eq).trans ?_
    refine (seqC_normal (st' := (S86_2 v_ l_ s2106))).trans ?_
    refine .trans seq_push ?_
    refine (block_push (id := 1)).trans ?_
    refine (pre1 (law05_filled_f6 v_ l_ s2106 _)).trans ?_
    refine .trans seq_push ?_
    refine (law05_filled_j6 v_ l_ s2106 _).trans (bind_g fun y2111 => ?_)
    refine (law05_filled_r8 v_ l_ s2106 y2111 _).trans (bind_g fun y2112 => ?_)
    refine block_normal.trans ?_
    refine (seqC_normal (st' := (S86_6 v_ l_ s2106 y2111))).trans ?_
    refine (law05_filled_r4 v_ l_ s2106 y2111 _).trans ?_
    kernel_rfl
  · refine ((exit_eq (j := 0))).trans ?_
    refine seqC_exit.trans ?_
    kernel_rfl
theorem law05_filled_l3 : R86 C86.r.r.l.r.b (S86_1 v_ l_) q = Option.bind (iterN (law05_filled_l3_p v_ l_) LL ([], (0 : Int))) (fun y2113 : ((List Int) × Int) => q (.exit 0) (S86_7 v_ l_ y2113)) :=
  Eq.trans (by kernel_rfl) (loop_iter1 (S := fun s2106 : ((List Int) × Int) => (S86_2 v_ l_ s2106)) (Y1 := fun y2113 : ((List Int) × Int) => ((.exit 0), (S86_7 v_ l_ y2113))) (fun s q => law05_filled_l3_b v_ l_ s q) (fun z => rfl) LL ([], (0 : Int)))
theorem law05_filled_fzx1 : P86 1 C86.r.r.r ⟨[(5, .one (.ow (.one (.int .i8)) y2113.1 (.v 5)))], [], [], 31⟩ k = k ⟨[(4, .one (.ow (.one (.int .i8)) y2113.1 (.v 5)))], [], [], 31⟩ := by kernel_rfl
/-- quilt/quiltlaw05.filled -/
def law05_filled : Option (List Int) := (Option.bind (iterN (law05_filled_l3_p v_ l_) LL ([], (0 : Int))) (fun y2113 : ((List Int) × Int) => (some y2113.1)))
theorem law05_filled_is : stepS E cp82 ce4 46 [rA tsI4 v_, rl (.one (.int .i8)) l_] = Option.bind (law05_filled v_ l_) (fun y : (List Int) => some (rl (.one (.int .i8)) y : R)) := by
  refine .trans ?_ (bind_b fun y2113 => some_b)
  refine (stepG_is (nt := 31) (regs := [(0, rA tsI4 v_), (1, rl (.one (.int .i8)) l_)])).trans ?_
  refine (pre2 (law05_filled_f2 v_ l_ _)).trans ?_
  refine .trans seq_push ?_
  refine (pre1 (law05_filled_f3 v_ l_ _)).trans ?_
  refine (block_push (id := 0)).trans ?_
  refine (law05_filled_l3 v_ l_ _).trans (bind_g fun y2113 => ?_)
  refine block_same.trans ?_
  refine (seqC_normal (st' := ⟨[(5, .one (.ow (.one (.int .i8)) y2113.1 (.v 5)))], [], [], 31⟩)).trans ?_
  refine (pre1 (law05_filled_fzx1 y2113 _)).trans ?_
  refine (ret_eq).trans ?_
  kernel_rfl
noncomputable def cp83 : CallP := withC cp82 46 [(.agg tsI4), (.one (.g (.sl (.one (.int .i8)))))] (.one (.one (.g (.sl (.one (.int .i8)))))) (fun y : (List Int) => y) (fun x => law05_filled x.1 x.2.1)
theorem cp83_ok : PureOK E cp83 := conS eok cp82_ok ce4_ok fun x => Eq.mp (by kernel_rfl) (law05_filled_is x.1 x.2.1)
end
section
variable {α β : Type} (in_ : (List I4)) (l_ : A3) (s2153 : (Int × (List Int) × (List Int))) (y2161 : ((List Int) × (List Int))) (y2162 : (Int × (List Int) × (List Int))) (k : St → Option α) (q : Kont α)
noncomputable abbrev C87 := codeOf E.P 31
noncomputable abbrev P87 := @preK α E 31 cp83 ce4
noncomputable abbrev R87 := @runCode α E 31 cp83 ce4
abbrev S87_0 : St := ⟨[(0, rl tsI4 in_), (3, rC tsA3 l_), (4, rF 0), (5, rF 1)], [[dl (.one (.int .i8)) [], dl (.one (.int .i8)) []], [dl (.one (.int .i8)) [], dl (.one (.int .i8)) []]], [], 29⟩
theorem law05_data_f2 : P87 2 C87 ⟨[(0, rl tsI4 in_), (1, rA tsA3 l_)], [], [], 29⟩ k = k (S87_0 in_ l_) := by kernel_rfl
abbrev S87_1 : St := ⟨[(0, rl tsI4 in_), (3, rC tsA3 l_), (4, rF 0), (5, rF 1), (6, ri 0)], [[dl (.one (.int .i8)) [], dl (.one (.int .i8)) []], [dl (.one (.int .i8)) [], dl (.one (.int .i8)) []]], [], 29⟩
theorem law05_data_f3 : P87 1 C87.r.r.l (S87_0 in_ l_) k = k (S87_1 in_ l_) := by kernel_rfl
def law05_data_r3_q (K : Bool → β) : β := (bif (decide (s2153.1 < (in_.length : Int))) then (K (decide (s2153.1 < 2))) else (K false))
def law05_data_r3_p : Bool := law05_data_r3_q in_ s2153 (fun y => y)
theorem law05_data_r3_n (K : Bool → β) : law05_data_r3_q in_ s2153 K = K (law05_data_r3_p in_ s2153) := (bif_k K rfl rfl)
abbrev S87_2 : St := ⟨[(0, rl tsI4 in_), (3, rC tsA3 l_), (4, rF 0), (5, rF 1), (6, ri s2153.1)], [[dl (.one (.int .i8)) [], dl (.one (.int .i8)) []], (tsA3.leaves s2153.2)], [], 29⟩
theorem law05_data_r3 : P87 1 C87.r.r.l.r.b.b.l (S87_2 in_ l_ s2153) k = k ⟨[(0, rl tsI4 in_), (3, rC tsA3 l_), (4, rF 0), (5, rF 1), (6, ri s2153.1), (15, rb (law05_data_r3_p in_ s2153))], [[dl (.one (.int .i8)) [], dl (.one (.int .i8)) []], (tsA3.leaves s2153.2)], [], 29⟩ := Eq.trans (by kernel_rfl) (law05_data_r3_n in_ s2153 (fun y2155 : Bool => k ⟨[(0, rl tsI4 in_), (3, rC tsA3 l_), (4, rF 0), (5, rF 1), (6, ri s2153.1), (15, rb y2155)], [[dl (.one (.int .i8)) [], dl (.one (.int .i8)) []], (tsA3.leaves s2153.2)], [], 29⟩))
def law05_data_r5_p : Option ((List Int) × (List Int)) := (bif (decide ((0 : Int) ≤ s2153.1)) then (bif (decide (s2153.1 < (in_.length : Int))) then (bif (s2153.1 == 0) then (Option.bind (law05_filled (gt in_ s2153.1 dI4) l_.1) (fun y2159 : (List Int) => (bif (s2153.1 == 0) then (some (y2159, s2153.2.2)) else (bif (s2153.1 == 1) then (some (s2153.2.1, y2159)) else none)))) else (bif (s2153.1 == 1) then (Option.bind (law05_filled (gt in_ s2153.1 dI4) l_.2) (fun y2160 : (List Int) => (bif (s2153.1 == 0) then (some (y2160, s2153.2.2)) else (bif (s2153.1 == 1) then (some (s2153.2.1, y2160)) else none)))) else none)) else none) else none)
abbrev S87_3 : St := ⟨[(0, rl tsI4 in_), (3, rC tsA3 l_), (4, rF 0), (5, rF 1), (6, ri s2153.1)], [[dl (.one (.int .i8)) [], dl (.one (.int .i8)) []], (tsA3.leaves y2161)], [], 29⟩
theorem law05_data_r5 : R87 C87.r.r.l.r.b.b.r.l.b (S87_2 in_ l_ s2153) q = Option.bind (law05_data_r5_p in_ l_ s2153) (fun y2161 : ((List Int) × (List Int)) => q .normal (S87_3 in_ l_ s2153 y2161)) := .trans (by kernel_rfl) (bif_b (bif_b (bif_b (bind_b fun y2159 => (bif_b some_b (bif_b some_b none_b))) (bif_b (bind_b fun y2160 => (bif_b some_b (bif_b some_b none_b))) none_b)) none_b) none_b)
theorem law05_data_r4 : R87 C87.r.r.l.r.b.b.r.r (S87_3 in_ l_ s2153 y2161) q = q .normal ⟨[(0, rl tsI4 in_), (3, rC tsA3 l_), (4, rF 0), (5, rF 1), (6, ri (IntKind.wrap .i64 (s2153.1 + 1)))], [[dl (.one (.int .i8)) [], dl (.one (.int .i8)) []], (tsA3.leaves y2161)], [], 29⟩ := by kernel_rfl
def law05_data_l3_p : Option ((Int × (List Int) × (List Int)) ⊕ (Int × (List Int) × (List Int))) := (bif (law05_data_r3_p in_ s2153) then (Option.bind (law05_data_r5_p in_ l_ s2153) (fun y2161 : ((List Int) × (List Int)) => (some (Sum.inl ((IntKind.wrap .i64 (s2153.1 + 1)), y2161.1, y2161.2))))) else (some (Sum.inr s2153)))
abbrev S87_4 : St := ⟨[(0, rl tsI4 in_), (3, rC tsA3 l_), (4, rF 0), (5, rF 1), (6, ri y2162.1)], [[dl (.one (.int .i8)) [], dl (.one (.int .i8)) []], (tsA3.leaves y2162.2)], [], 29⟩
theorem law05_data_l3_b : R87 C87.r.r.l.r.b.b (S87_2 in_ l_ s2153) (loopKont 2 q) = Option.bind (law05_data_l3_p in_ l_ s2153) (either (fun y : (Int × (List Int) × (List Int)) => q .normal ⟨[(0, rl tsI4 in_), (3, rC tsA3 l_), (4, rF 0), (5, rF 1), (6, ri y.1)], [[dl (.one (.int .i8)) [], dl (.one (.int .i8)) []], (tsA3.leaves y.2)], [], 29⟩) (fun y2162 : (Int × (List Int) × (List Int)) => q (.exit 0) (S87_4 in_ l_ y2162))) := by
  refine .trans ?_ (bif_b (bind_b fun y2161 => e2_0) e2_1)
  refine .trans seq_push ?_
  refine (pre1 (law05_data_r3 in_ l_ s2153 _)).trans ?_
  refine (cond_e (b := (law05_data_r3_p in_ s2153)) (st' := (S87_2 in_ l_ s2153)) ).trans (bif_g ?_ ?_)
  · refine (skip_eq).trans ?_
    refine (seqC_normal (st' := (S87_2 in_ l_ s2153))).trans ?_
    refine .trans seq_push ?_
    refine (block_push (id := 1)).trans ?_
    refine (law05_data_r5 in_ l_ s2153 _).trans (bind_g fun y2161 => ?_)
    refine block_normal.trans ?_
    refine (seqC_normal (st' := (S87_3 in_ l_ s2153 y2161))).trans ?_
    refine (law05_data_r4 in_ l_ s2153 y2161 _).trans ?_
    kernel_rfl
  · refine ((exit_eq (j := 0))).trans ?_
    refine seqC_exit.trans ?_
    kernel_rfl
theorem law05_data_l3 : R87 C87.r.r.l.r.b (S87_1 in_ l_) q = Option.bind (iterN (law05_data_l3_p in_ l_) LL ((0 : Int), [], [])) (fun y2162 : (Int × (List Int) × (List Int)) => q (.exit 0) (S87_4 in_ l_ y2162)) :=
  Eq.trans (by kernel_rfl) (loop_iter1 (S := fun s2153 : (Int × (List Int) × (List Int)) => (S87_2 in_ l_ s2153)) (Y1 := fun y2162 : (Int × (List Int) × (List Int)) => ((.exit 0), (S87_4 in_ l_ y2162))) (fun s q => law05_data_l3_b in_ l_ s q) (fun z => rfl) LL ((0 : Int), [], []))
abbrev S87_5 : St := ⟨[(4, rF 0), (5, rF 1)], [[dl (.one (.int .i8)) [], dl (.one (.int .i8)) []], (tsA3.leaves y2162.2)], [], 29⟩
theorem law05_data_fz : P87 1 C87.r.r.r (S87_5 y2162) k = k ⟨[(4, rF 0)], [(tsA3.leaves y2162.2), []], [], 29⟩ := by kernel_rfl
/-- quilt/quiltlaw05.data -/
def law05_data : Option A3 := (Option.bind (iterN (law05_data_l3_p in_ l_) LL ((0 : Int), [], [])) (fun y2162 : (Int × (List Int) × (List Int)) => (some y2162.2)))
theorem law05_data_is : stepS E cp83 ce4 31 [rl tsI4 in_, rA tsA3 l_] = Option.bind (law05_data in_ l_) (fun y : A3 => some (rA tsA3 y : R)) := by
  refine .trans ?_ (bind_b fun y2162 => some_b)
  refine (stepG_is (nt := 29) (regs := [(0, rl tsI4 in_), (1, rA tsA3 l_)])).trans ?_
  refine (pre2 (law05_data_f2 in_ l_ _)).trans ?_
  refine .trans seq_push ?_
  refine (pre1 (law05_data_f3 in_ l_ _)).trans ?_
  refine (block_push (id := 0)).trans ?_
  refine (law05_data_l3 in_ l_ _).trans (bind_g fun y2162 => ?_)
  refine block_same.trans ?_
  refine (seqC_normal (st' := (S87_5 y2162))).trans ?_
  refine (pre1 (law05_data_fz y2162 _)).trans ?_
  refine (ret_eq).trans ?_
  kernel_rfl
noncomputable def cp84 : CallP := withC cp83 31 [(pL tsI4), (.agg tsA3)] (.one (.agg tsA3)) (fun y : A3 => y) (fun x => law05_data x.1 x.2.1)
theorem cp84_ok : PureOK E cp84 := conS eok cp83_ok ce4_ok fun x => Eq.mp (by kernel_rfl) (law05_data_is x.1 x.2.1)
end
end Go.V.P
